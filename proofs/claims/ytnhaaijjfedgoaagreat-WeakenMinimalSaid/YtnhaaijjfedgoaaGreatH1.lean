/- A part of the proof. -/
import Derived.Test.YtnhaaijjfedgoaaGreatH0
import Derived.Laws.RangeString
import Derived.Maps.RangeRun
set_option linter.unusedVariables false
set_option linter.unusedSimpArgs false
namespace Go.AE
open Go
section
variable {P:Program} {N:Nat} {st:ASt} {g:Gh} {a:Act} {w:World}
theorem Jtu2 {env:List (Nat × AV)} {t:Nat} {org:Place} {e:Nat} {rows:List (List D)}:get (unview env) t≠some (.view org e rows):=by
 intro h
 rw [Jtgt,omS] at h
 obtain ⟨z,_,hz⟩:=h
 exact Jt1fi z _ _ _ hz
theorem Jt11(hs:Sim N st g a w){o:Oper}{i d e:Nat}{rows:List (List D)} {K:ASt→Prop} {QP:AV→ASt→Prop} {next:Act→World→Prop} {Q:Exit→Act→World→Prop} (ho:o.op=.assign (.tmp i))
  (hi:get st.env i=some (.own e rows)) (hdst:o.dst=some d) (hdi:d≠i) (hd:d<N) (hK:K ⟨(d,.own e rows)::(i,.d (.sl rows))::unview st.env,st.H⟩) (hg:GoesOn N st g a w K QP next Q) :
  o.wp P a w next Q:=by
 obtain ⟨h1,h2⟩:=hs.dropTmp hi
 have hrel:=hs.env i _ hi
 have hown:=hs.own (.tmp i) e rows _ hi rfl
 have howner:∀ r n cap,a.tmps.getD i undef=.slice (some ⟨r,0,none⟩) n cap→Owner st g.φ a w (.tmp i) r:=fun r n cap h=>⟨e,rows,_,hi,rfl,n,cap,h⟩
 have hp:=h1.putOwn (d:=d) (e:=e) (rows:=rows) (v:=a.tmps.getD i undef) hd
  (fun t org e' rows' _ h=>by
   simp only [get] at h
   split at h
   ·injection h with h;cases h
   ·exact absurd h Jtu2) hrel hown
  (fun r n cap h=>⟨fun b hb=>hs.apart _ r b (howner r n cap h) hb,fun p _ ho=>by
   obtain ⟨k1,k2⟩:=h2 p r ho
   exact k1 (hs.excl _ _ r k2 (howner r n cap h))⟩)
 refine Jt1lb (v:=a.tmps.getD i undef) (w':=w) (by unfold execOp;simp [ho,Act.eval]) (hg.1 _ _ _ _ hK (by rw [hdst];exact hp.1) (Step.same (fun r hr=>?_) rfl))
 rw [hdst] at hr
 rcases hp.2 r hr with h | ⟨n,cap,h⟩
 ·rcases h with ⟨b,hb⟩ | ⟨p,hp'⟩
  ·exact .inl ⟨b,hb⟩
  ·exact .inr ⟨p,(h2 p r hp').2⟩
 ·exact .inr ⟨_,howner r n cap h⟩
theorem Jt12(hs:Sim N st g a w){o:Oper}{i d e:Nat}{rows:List (List D)} {K:ASt→Prop} {QP:AV→ASt→Prop} {next:Act→World→Prop} {Q:Exit→Act→World→Prop} {i':Nat} (ho:o.op=.assign (.tmp i'))
  (hi:get st.env i=some (.own e rows)) (hii:a.tmps.getD i' undef=a.tmps.getD i undef) (hdst:o.dst=some d) (hdi:d≠i) (hd:d<N) (hK:K ⟨(d,.own e rows)::(i,.d (.sl rows))::unview st.env,st.H⟩) (hg:GoesOn N st g a w K QP next Q) :
  o.wp P a w next Q:=by
 obtain ⟨h1,h2⟩:=hs.dropTmp hi
 have hrel:=hs.env i _ hi
 have hown:=hs.own (.tmp i) e rows _ hi rfl
 have howner:∀ r n cap,a.tmps.getD i undef=.slice (some ⟨r,0,none⟩) n cap→Owner st g.φ a w (.tmp i) r:=fun r n cap h=>⟨e,rows,_,hi,rfl,n,cap,h⟩
 have hp:=h1.putOwn (d:=d) (e:=e) (rows:=rows) (v:=a.tmps.getD i undef) hd
  (fun t org e' rows' _ h=>by
   simp only [get] at h
   split at h
   ·injection h with h;cases h
   ·exact absurd h Jtu2) hrel hown
  (fun r n cap h=>⟨fun b hb=>hs.apart _ r b (howner r n cap h) hb,fun p _ ho=>by
   obtain ⟨k1,k2⟩:=h2 p r ho
   exact k1 (hs.excl _ _ r k2 (howner r n cap h))⟩)
 refine Jt1lb (v:=a.tmps.getD i undef) (w':=w) (by unfold execOp;simp [ho,Act.eval,hii]) (hg.1 _ _ _ _ hK (by rw [hdst];exact hp.1) (Step.same (fun r hr=>?_) rfl))
 rw [hdst] at hr
 rcases hp.2 r hr with h | ⟨n,cap,h⟩
 ·rcases h with ⟨b,hb⟩ | ⟨p,hp'⟩
  ·exact .inl ⟨b,hb⟩
  ·exact .inr ⟨p,(h2 p r hp').2⟩
 ·exact .inr ⟨_,howner r n cap h⟩
theorem Jt4p(hs:Sim N st g a w){o:Oper}{t:TypeId}{x:Operand}{y:Opd}{K:ASt→Prop}{QP:AV→ASt→Prop}{next:Act→World→Prop}{Q:Exit→Act→World→Prop}(ho:o.op=.range t x)(hu:P.underlying t=some .string)
  (hc:cOpd x=some y) (hd:∀ d,o.dst=some d→d<N) (h:AWrng y o.dst K st) (hg:GoesOn N st g a w K QP next Q):o.wp P a w next Q:=by
 unfold AWrng at h
 split at h
 ·rename_i s hy
  have hx:a.eval x=.string ⟨s.toArray⟩:=by
   have:=(Jtfd hs hc hy).1
   generalize a.eval x=v at this
   cases this with
   | d _ _ hp=>cases hp with
    | str s=>rfl
  have hgr:=Jth3 (g:=g) (w:=w) (Mine st g a w) (.stringIter ⟨s.toArray⟩ 0) 0
  have hs1:=hs.grew hgr
  have hfresh:=hs.fresh
  have hs2:=hs1.addBlk (k:=.iter s 0) (r:=w.heap.size) (by simp) (by simp [Gh.setF]) hfresh.1
   (fun p h=>hfresh.2 p ((Jt5e hs hgr).1 h)) (fun cs h=>by cases h) (fun cs h=>by cases h)
   (fun s' p' h=>by injection h with h1 h2;subst h1;subst h2;exact heap_alloc_new w _)
  have hstep:Step st g a w ⟨st.env,st.H++[.iter s 0]⟩ (Gh.add ⟨g.φ,(g.setF w.heap.size 0).F⟩ st.H.length w.heap.size) a (w.alloc (.stringIter ⟨s.toArray⟩ 0)):=by
   refine ⟨⟨rfl,rfl,rfl,by simp,fun r hr _=>⟨heap_alloc_old w _ hr,by simp only [Gh.add,Gh.setF];rw [if_neg (by omega)]⟩,hgr.stab⟩,fun r h=>?_,fun b r h=>?_,by simp,rfl⟩
   ·rcases hs2.2 r h with h1 | h1
    ·exact .inl ((Jt5a hs hgr).1 h1)
    ·exact .inr (by omega)
   ·exact Jt6e hs1 _ b r h
  obtain ⟨m1,m2⟩:=putPtr hs2.1 hstep hd (b:=st.H.length) (off:=0) (v:=.pointer (some ⟨w.heap.size,0,none⟩)) (.ptr _ _ _ (by simp [Gh.add]))
  refine Jt1lb (v:=.pointer (some ⟨w.heap.size,0,none⟩)) (w':=w.alloc (.stringIter ⟨s.toArray⟩ 0)) ?_ (hg.1 _ _ _ _ h m1 m2)
  unfold execOp
  simp only [ho,hx]
  have:=run_range_string (P:=P) w t ⟨s.toArray⟩ hu
  simp only [Sem.run_bind,this,Result.andThen_ok,Sem.run_pure];rfl
 ·exact h.elim
def iterW(w:World)(r:Nat)(s:List UInt8)(pos:Nat):World:={ w with heap:=w.heap.setIfInBounds r (.stringIter ⟨s.toArray⟩ pos)}
theorem Sim.iterUpd(hs:Sim N st g a w){b r:Nat}{s:List UInt8}{pos:Nat}(pos':Nat)(hb:st.H[b]?=some (.iter s pos)) (hr:g.φ b=some r) :
  Sim N ⟨st.env,st.H.set b (.iter s pos')⟩ g a (iterW w r s pos')∧(∀ q,Mine ⟨st.env,st.H.set b (.iter s pos')⟩ g a (iterW w r s pos') q→Mine st g a w q)∧Tr (Mine st g a w) g w g (iterW w r s pos'):=by
 have hblt:b<st.H.length:=(lgS.1 hb).1
 have hit:=hs.iter b s pos r hb hr
 have hrl:=(hs.lt b r hr).1
 have hset:∀ b',(st.H.set b (.iter s pos'))[b']?=if b'=b then some (.iter s pos') else st.H[b']?:=by
  intro b'
  rw [List.getElem?_set]
  by_cases h:b'=b
  ·subst h;simp [hblt]
  ·rw [if_neg (Ne.symm h),if_neg h]
 have hothr:∀ q,q≠r→(iterW w r s pos').heap[q]?=w.heap[q]?:=by
  intro q hq
  simp only [iterW,Array.getElem?_setIfInBounds]
  rw [if_neg (Ne.symm hq)]
 have hsame:(iterW w r s pos').heap[r]?=some (.stringIter ⟨s.toArray⟩ pos'):=by
  simp only [iterW,Array.getElem?_setIfInBounds,if_true,hrl]
 have hsize:(iterW w r s pos').heap.size=w.heap.size:=by simp [iterW]
 have hcell:∀ q j,(iterW w r s pos').cell? ⟨q,j,none⟩=w.cell? ⟨q,j,none⟩:=by
  intro q j
  by_cases hq:q=r
  ·subst hq;simp only [World.cell?,hsame,hit]
  ·exact World.cell?_of_block (a:=⟨q,j,none⟩) (hothr q hq)
 have hst:Stab g.F w g.F (iterW w r s pos'):=⟨fun _ _=>Nat.le_refl _,fun q j u hj hu=>by rw [hcell];exact hu,fun q=>by
  by_cases hq:q=r
  ·subst hq;simp [csize,hit]
  ·rw [Jtcx (hothr q hq)];exact Nat.le_refl _⟩
 have hrel':∀ {x:AV} {u:Value},Rel g.F g.φ w x u→Rel g.F g.φ (iterW w r s pos') x u:=fun h=>h.stab hst (fun _ _ h=>h)
 have hAP:∀ p e rows,AP ⟨st.env,st.H.set b (.iter s pos')⟩ p=some (.own e rows)→AP st p=some (.own e rows):=by
  intro p e rows h
  cases p with
  | tmp t=>exact h
  | cell b' j=>
   simp only [AP,hset] at h ⊢
   by_cases hb':b'=b
   ·subst hb';rw [if_pos rfl] at h;cases h
   ·rw [if_neg hb'] at h;exact h
 have hAP':∀ p e rows,AP st p=some (.own e rows)→AP ⟨st.env,st.H.set b (.iter s pos')⟩ p=some (.own e rows):=by
  intro p e rows h
  cases p with
  | tmp t=>exact h
  | cell b' j=>
   simp only [AP,hset] at h ⊢
   by_cases hb':b'=b
   ·subst hb';rw [hb] at h;cases h
   ·rw [if_neg hb'];exact h
 have hRP:∀ p,RP g.φ a (iterW w r s pos') p=RP g.φ a w p:=by
  intro p
  cases p with
  | tmp t=>rfl
  | cell b' j=>
   simp only [RP]
   cases g.φ b' with
   | none=>rfl
   | some q=>simp only [Option.bind_some,hcell]
 have hO:∀ p q,Owner ⟨st.env,st.H.set b (.iter s pos')⟩ g.φ a (iterW w r s pos') p q→Owner st g.φ a w p q:=by
  rintro p q ⟨e,rows,v,h1,h2,h3⟩
  exact ⟨e,rows,v,hAP p e rows h1,by rw [←hRP];exact h2,h3⟩
 refine ⟨{ size:=hs.size,env:=fun t x hx=>hrel' (hs.env t x hx),inj:=hs.inj,lt:=?_,dom:=?_,mem:=?_,iter:=?_,glob:=?_,own:=?_,excl:=?_,apart:=?_,view:=?_},?_,?_⟩
 ·intro b' q h
  obtain ⟨h1,h2,h3⟩:=hs.lt b' q h
  exact ⟨by rw [hsize];exact h1,h2,by simpa using h3⟩
 ·intro b' k h hk
  rw [hset] at h
  split at h
  ·rename_i hb';subst hb';exact ⟨r,hr⟩
  ·exact hs.dom b' k h hk
 ·intro b' cs q h hq
  rw [hset] at h
  split at h
  ·cases h
  ·rename_i hb'
   obtain ⟨c1,e1,k1,k2,k3⟩:=hs.mem b' cs q h hq
   refine ⟨c1,e1,by rw [hothr q (fun he=>hb' (hs.inj _ _ q hq (by rw [he];exact hr)))];exact k1,k2,fun j x hx=>?_⟩
   obtain ⟨m1,u,m2,m3⟩:=k3 j x hx
   exact ⟨m1,u,m2,hrel' m3⟩
 ·intro b' s' p' q h hq
  rw [hset] at h
  split at h
  ·rename_i hb';subst hb'
   injection h with h;injection h with h h';subst h;subst h'
   rw [hr] at hq;injection hq with hq;subst hq
   exact hsame
  ·rename_i hb'
   rw [hothr q (fun he=>hb' (hs.inj _ _ q hq (by rw [he];exact hr)))]
   exact hs.iter b' s' p' q h hq
 ·intro b' r0 o q h hq
  rw [hset] at h
  split at h
  ·cases h
  ·rename_i hb'
   rw [hothr q (fun he=>hb' (hs.inj _ _ q hq (by rw [he];exact hr)))]
   exact hs.glob b' r0 o q h hq
 ·intro p e rows v h1 h2
  have h1':=hAP p e rows h1
  rw [hRP] at h2
  rcases hs.own p e rows v h1' h2 with h | ⟨q,cap,c1,e1,k1,k2,k3⟩
  ·exact .inl h
  ·refine .inr ⟨q,cap,c1,e1,k1,?_,k3⟩
   rw [hothr q (fun he=>hs.apart p q b ⟨e,rows,v,h1',h2,_,_,k1⟩ (by rw [he];exact hr))];exact k2
 ·exact fun p p' q h h'=>hs.excl p p' q (hO p q h) (hO p' q h')
 ·exact fun p q b' h=>hs.apart p q b' (hO p q h)
 ·intro t org e rows h
  obtain ⟨k1,k2⟩:=hs.view t org e rows h
  exact ⟨hAP' org e rows k1,by rw [hRP];exact k2⟩
 ·rintro q (⟨b',hb'⟩ | ⟨p,hp⟩)
  ·exact .inl ⟨b',hb'⟩
  ·exact .inr ⟨p,hO p q hp⟩
 ·exact ⟨rfl,rfl,rfl,by rw [hsize];exact Nat.le_refl _,fun q hq hn=>⟨hothr q (fun he=>hn (.inl ⟨b,by rw [he];exact hr⟩)),rfl⟩,hst⟩
theorem Jt3y(hs:Sim N st g a w){o:Oper}{x:Operand}{y:Opd}{K:ASt→Prop}{QP:AV→ASt→Prop}{next:Act→World→Prop}{Q:Exit→Act→World→Prop}(ho:o.op=.next x true)
  (hc:cOpd x=some y) (hd:∀ d,o.dst=some d→d<N) (h:AWnxt y o.dst K st) (hg:GoesOn N st g a w K QP next Q):o.wp P a w next Q:=by
 unfold AWnxt at h
 split at h
 ·rename_i b hy
  obtain ⟨r,hr,hx⟩:=(Jtfd hs hc hy).1.ptr_inv
  split at h
  ·rename_i s pos hb
   have hit:=hs.iter b s pos r hb hr
   have hrl:=(hs.lt b r hr).1
   have hu:=hs.unview
   by_cases hp:pos<s.length
   ·have hK:=h.1 hp
    obtain ⟨k1,k2,k3⟩:=hu.iterUpd (pos+(decS s pos).2) (b:=b) (r:=r) (s:=s) (pos:=pos) hb hr
    have hpt:=k1.put (P:=P) (dst:=o.dst) hd (x:=.tup [.d (.bool true),.d (.int .i64 pos),.d (.int .i32 (decS s pos).1)]) (v:=.tuple #[.bool true,goInt pos,.int .i32 (decS s pos).1])
     (.tup _ _ rfl (fun j x u hx hu=>by
      match j with
      | 0=>simp at hx hu;subst hx;subst hu;exact .d _ _ (.bool _)
      | 1=>simp at hx hu;subst hx;subst hu;exact .d _ _ (.int _ _)
      | 2=>simp at hx hu;subst hx;subst hu;exact .d _ _ (.int _ _)
      | j+3=>simp at hx)) (fun org e rows h=>by cases h) (fun e rows h=>by cases h)
    have hst:Step st g a w ⟨Go.AE.unview st.env,st.H.set b (.iter s (pos+(decS s pos).2))⟩ g a (iterW w r s (pos+(decS s pos).2)):=
     ⟨k3.mono fun q hq=>Jt5b.1 hq,fun q hq=>.inl (Jt5b.1 (k2 q hq)),fun b r h=>h,by simp,rfl⟩
    refine Jt1lb (v:=.tuple #[.bool true,goInt pos,.int .i32 (decS s pos).1]) (w':=iterW w r s (pos+(decS s pos).2)) ?_ (hg.1 _ _ _ _ hK hpt.1 (hst.trans (Step.same hpt.2 (put_H _ _ _))))
    unfold execOp
    have hlt:pos<(⟨s.toArray⟩:ByteArray).size:=by simpa [ByteArray.size] using hp
    simp only [ho,hx,Instr.next,getObj,setObj,Sem.run_bind,Sem.run,hit,Result.andThen,hlt,if_true]
    simp [Sem.run,hit,iterW,decS]
   ·have hK:=h.2 hp
    have hpt:=hu.put (P:=P) (dst:=o.dst) hd (x:=.tup [.d (.bool false)]) (v:=.tuple #[.bool false])
     (.tup _ _ rfl (fun j x u hx hu=>by
      match j with
      | 0=>simp at hx hu;subst hx;subst hu;exact .d _ _ (.bool _)
      | j+1=>simp at hx)) (fun org e rows h=>by cases h) (fun e rows h=>by cases h)
    have hst:Step st g a w ⟨Go.AE.unview st.env,st.H⟩ g a w:=Step.same (fun q hq=>Jt5b.1 hq) rfl
    refine Jt1lb (v:=.tuple #[.bool false]) (w':=w) ?_ (hg.1 _ _ _ _ hK hpt.1 (hst.trans (Step.same hpt.2 (put_H _ _ _))))
    unfold execOp
    have hlt:¬ pos<(⟨s.toArray⟩:ByteArray).size:=by simpa [ByteArray.size] using hp
    simp [ho,hx,Instr.next,getObj,Sem.run,hit,hlt]
  ·exact h.elim
 ·exact h.elim
theorem Jtgc (rows:List (List AV)) (esz:Nat) (h:∀ r∈rows,r.length=esz):rows.flatten.length=rows.length*esz:=by
 induction rows with
 | nil=>simp
 | cons r rows ih=>
  rw [List.flatten_cons,List.length_append,h r (by simp),ih fun r hr=>h r (by simp [hr]),List.length_cons,Nat.add_mul,Nat.one_mul,Nat.add_comm]
theorem Jt15u(z:List AV)(n j:Nat)(hz:0<z.length)(x:AV)(h:(List.replicate n z).flatten[j]?=some x):j<n*z.length∧z[j % z.length]?=some x:=by
 induction n generalizing j with
 | zero=>simp at h
 | succ n ih=>
  rw [List.replicate_succ,List.flatten_cons] at h
  by_cases hj:j<z.length
  ·rw [lgA hj] at h
   exact ⟨by rw [Nat.add_mul];omega,by rw [Nat.mod_eq_of_lt hj];exact h⟩
  ·rw [List.getElem?_append_right (by omega)] at h
   obtain ⟨h1,h2⟩:=ih _ h
   refine ⟨by rw [Nat.add_mul];omega,?_⟩
   rw [Nat.mod_eq_sub_mod (by omega)];exact h2
theorem Jtth(hs:Sim N st g a w){o:Oper}{t e:TypeId}{n b:Nat}{z:List AV}{l c:Operand}{l' c':Opd}{K:ASt→Prop}{QP:AV→ASt→Prop}{next:Act→World→Prop}{Q:Exit→Act→World→Prop}
  (ho:o.op=.makeSlice t l c) (hu:P.underlying t=some (.slice e)) (hn:szOf P e=some n) (hb:byOf P e=some b) (hz:zeroOf P e=some z) (hl:cOpd l=some l') (hc:cOpd c=some c')
  (hd:∀ d,o.dst=some d→d<N) {cv:Nat} (h1:asIx st.env l'=some (cv:Int)) (h2:asIx st.env c'=some (cv:Int)) (h3:cv≤1000000000000000000) (h4:cv*b≤140737488355328) (h5:0<n) (h6:z.length=n) (h7:z.all AV.leaf=true)
  (hK:K (Go.AE.put o.dst (.hsl st.H.length 0 n cv) ⟨st.env,st.H++[.mem (List.replicate cv z).flatten]⟩)) (hg:GoesOn N st g a w K QP next Q):o.wp P a w next Q:=by
 obtain ⟨inf,hinf,rfl⟩:=Jt1e1 hn
 obtain ⟨i,zv,hi,hzv,hzr⟩:=Jt1lk (P:=P) (F:=g.F) (φ:=g.φ) (w:=w) hz
 rw [hi] at hinf;injection hinf with hinf;subst hinf
 obtain ⟨kl,hkl⟩:=Jt7q hs hl h1
 obtain ⟨kc,hkc⟩:=Jt7q hs hc h2
 have hby:i.bytes=b:=by unfold byOf at hb;rw [hi] at hb;injection hb
 subst hby
 have hzs:zv.cells.size=i.size:=by have:=hzr.1;simp at this;omega
 have hb':(i.bytes:Int)*(cv:Int)≤281474976710656:=by
  have h:((i.bytes*cv:Nat):Int)≤281474976710656:=by rw [Nat.mul_comm];omega
  rwa [Int.natCast_mul] at h
 have hr:=run_make (P:=P) w t e i zv hu hi hzv kl kc cv cv (by omega) (by omega) hb' (by omega)
 have hex:(execOp a.eval o).run P w=.ok (.value (.slice (some ⟨w.heap.size,0,none⟩) cv cv)) (w.alloc (.cells (madeCells zv.cells (cv*i.size)) e)):=by
  unfold execOp
  simp only [ho,hkl,hkc,Sem.run_bind,hr,Result.andThen_ok,Int.toNat_natCast,Sem.run_pure]
 have hflen:=Jtgc (List.replicate cv z) i.size (fun r hr=>by rw [(List.mem_replicate.1 hr).2];exact h6)
 rw [List.length_replicate] at hflen
 have hcl:RelL g.F g.φ w (List.replicate cv z).flatten (madeCells zv.cells (cv*i.size)).toList:=by
  refine ⟨by rw [hflen];simp [madeCells],fun j x u hx hu'=>?_⟩
  obtain ⟨q1,q2⟩:=Jt15u z cv j (by omega) x hx
  rw [h6] at q1 q2
  refine hzr.2 (j % i.size) x u q2 ?_
  simp only [madeCells,Array.toList_map,Array.toList_range,lgM,omS] at hu'
  obtain ⟨k,hk,rfl⟩:=hu'
  rw [List.getElem?_range q1] at hk
  injection hk with hk;subst hk
  have hmod:j % i.size<i.size:=Nat.mod_lt _ h5
  rw [hzs,Array.getElem?_toList,getElem!_pos zv.cells (j % i.size) (by omega)]
  simp [show j % i.size<zv.cells.size by omega]
 have hmem:∀ x∈(List.replicate cv z).flatten,x∈z:=by
  intro x hx
  obtain ⟨l,hl,hx⟩:=List.mem_flatten.1 hx
  rw [(List.mem_replicate.1 hl).2] at hx;exact hx
 obtain ⟨g1,k1,k2,k3⟩:=hs.newBlk (e:=e) hcl (by rw [List.all_eq_true] at h7 ⊢;exact fun x hx=>h7 x (hmem x hx)) (Jtna hcl)
 obtain ⟨r,hr1,hr2⟩:=k3.ptr_inv
 have hp:=k1.put (P:=P) (dst:=o.dst) hd (x:=.hsl st.H.length 0 i.size cv) (v:=.slice (some ⟨w.heap.size,0,none⟩) cv cv)
  (.hsl _ _ _ _ r _ _ hr1 (Nat.le_refl _) (fun _=>by injection hr2 with hr2) (fun _=>by
   have hr3:r=w.heap.size:=by simp at hr2;omega
   rw [hr3,Jtcw (heap_alloc_new w _)]
   simp [madeCells])) (fun org e rows h=>by cases h) (fun e rows h=>by cases h)
 exact Jt1lb hex (hg.1 _ _ _ _ hK hp.1 (k2.trans (Step.same hp.2 (put_H _ _ _))))
theorem Jtua{v:Value}{x:AV}{y:D}(h:ofLeaf v=some x)(hy:x.erase.toD=some y):x=nilsOf y:=by
 unfold ofLeaf at h
 split at h<;>first | (cases h;done) | skip
 all_goals (injection h with h;subst h;simp only [AV.erase,AV.toD] at hy;first | (cases hy;done) | (injection hy with hy;subst hy;rfl))
theorem Jtud:∀ {vs:List Value} {zA:List AV} {z:List D},Jtuc vs=some zA→toDs zA=some z→zA=z.map nilsOf:=by
 intro vs
 induction vs with
 | nil=>intro zA z h1 h2;simp [Jtuc] at h1;subst h1;simp [toDs] at h2;subst h2;rfl
 | cons v vs ih=>
  intro zA z h1 h2
  simp only [Jtuc] at h1
  split at h1
  ·rename_i x xs hx hxs
   injection h1 with h1;subst h1
   simp only [toDs] at h2
   split at h2
   ·rename_i y ys hy hys
    injection h2 with h2;subst h2
    rw [List.map_cons,←ih hxs hys,Jtua hx hy]
   ·cases h2
  ·cases h1
theorem Jt1li{t:TypeId}{z:List D}(h:zeroD P t=some z):zeroOf P t=some (z.map nilsOf):=by
 unfold zeroD at h
 split at h
 ·rename_i z0 hz0
  rw [hz0]
  have:z0=z.map nilsOf:=by
   unfold zeroOf at hz0
   split at hz0
   ·split at hz0
    ·exact Jtud hz0 h
    ·cases hz0
   ·cases hz0
  rw [this]
 ·cases h
theorem Jtu1(z:List D):(z.map nilsOf).all AV.leaf=true:=by
 rw [List.all_eq_true];intro x hx
 obtain ⟨y,_,rfl⟩:=List.mem_map.1 hx
 unfold nilsOf;split<;>rfl
theorem Jt3s(hs:Sim N st g a w){o:Oper}{t e:TypeId}{n b:Nat}{z:List D}{l c:Operand}{l' c':Opd}{K:ASt→Prop}{QP:AV→ASt→Prop}{next:Act→World→Prop}{Q:Exit→Act→World→Prop}
  (ho:o.op=.makeSlice t l c) (hu:P.underlying t=some (.slice e)) (hn:szOf P e=some n) (hb:byOf P e=some b) (hz:zeroD P e=some z) (hl:cOpd l=some l') (hc:cOpd c=some c')
  (hd:∀ d,o.dst=some d→d<N) (h:AWmks n b z l' c' o.dst K st) (hg:GoesOn N st g a w K QP next Q):o.wp P a w next Q:=by
 obtain ⟨lv,cv,h1,h2,h3,h4,h5,h6,h7⟩:=h
 obtain ⟨inf,hinf,rfl⟩:=Jt1e1 hn
 obtain ⟨i,zv,hi,hzv,hzs,hzr⟩:=Jt1lj (P:=P) (F:=g.F) (w:=w) hz
 rw [hi] at hinf;injection hinf with hinf;subst hinf
 obtain ⟨kl,hkl⟩:=Jt7q hs hl h1
 obtain ⟨kc,hkc⟩:=Jt7q hs hc h2
 have hby:i.bytes=b:=by unfold byOf at hb;rw [hi] at hb;injection hb
 subst hby
 have hb':(i.bytes:Int)*(cv:Int)≤281474976710656:=by
  have h:((i.bytes*cv:Nat):Int)≤281474976710656:=by rw [Nat.mul_comm];omega
  rwa [Int.natCast_mul] at h
 have hlc:(lv:Int)≤cv:=by rcases h7 with ⟨h7,_⟩ | ⟨h7,_⟩<;>omega
 have hr:=run_make (P:=P) w t e i zv hu hi hzv kl kc lv cv (by omega) hlc hb' (by omega)
 have hex:(execOp a.eval o).run P w=.ok (.value (.slice (some ⟨w.heap.size,0,none⟩) lv cv)) (w.alloc (.cells (madeCells zv.cells (cv*i.size)) e)):=by
  unfold execOp
  simp only [ho,hkl,hkc,Sem.run_bind,hr,Result.andThen_ok,Int.toNat_natCast,Sem.run_pure]
 rcases h7 with ⟨rfl,hK | hK⟩ | ⟨rfl,hK | hK⟩
 ·obtain ⟨g',k1,k2,k3⟩:=hs.newOwn (dst:=o.dst) hd (e:=e) (esz:=i.size) (n:=0) (cap:=cv) (rows:=[]) (c:=madeCells zv.cells (cv*i.size)) rfl (by simp) (by simp [madeCells]) (Nat.zero_le _)
   (by unfold maxLen;omega) (fun j x u hx=>by simp at hx)
  exact Jt1lb hex (hg.1 _ _ _ _ hK k1 k2)
 ·obtain ⟨g1,k1,k2,k3⟩:=hs.newBlkW (e:=e) (cells:=[]) (c:=madeCells zv.cells (cv*i.size)) (Nat.zero_le _) (fun j x u hx=>by simp at hx) rfl (fun x hx=>by simp at hx)
  obtain ⟨r,hr1,hr2⟩:=k3.ptr_inv
  have hp:=k1.put (P:=P) (dst:=o.dst) hd (x:=.hsl0 st.H.length i.size) (v:=.slice (some ⟨w.heap.size,0,none⟩) 0 cv)
   (by
    have hr3:r=w.heap.size:=by simp at hr2;omega
    subst hr3
    have hzs':zv.cells.size=i.size:=by rw [hzs,h6]
    refine .hsl0 _ _ _ _ hr1 ?_
    rw [Jtcw (heap_alloc_new w _)]
    simp [madeCells]) (fun org e rows h=>by cases h) (fun e rows h=>by cases h)
  exact Jt1lb hex (hg.1 _ _ _ _ hK hp.1 (k2.trans (Step.same hp.2 (put_H _ _ _))))
 ·have hrep:∀ r∈List.replicate lv z,r.length=i.size:=fun r hr=>by rw [(List.mem_replicate.1 hr).2];exact h6
  have hflen:=Jtgb (List.replicate lv z) i.size hrep
  rw [List.length_replicate] at hflen
  have hcl:RelL g.F g.φ w ((List.replicate lv z).flatten.map AV.d) (madeCells zv.cells (lv*i.size)).toList:=by
   refine ⟨by simp only [List.length_map,hflen];simp [madeCells],fun j x u hx hu'=>?_⟩
   rw [lgM,omS] at hx
   obtain ⟨y,hy,rfl⟩:=hx
   have hmod:j % i.size<i.size:=Nat.mod_lt _ h5
   have hdm:j=(j / i.size)*i.size+j % i.size:=by rw [Nat.mul_comm];exact (Nat.div_add_mod j i.size).symm
   have hjl:j<lv*i.size:=by rw [←hflen];exact (lgS.1 hy).1
   rw [hdm,Jtg9 _ i.size hrep _ _ hmod] at hy
   have hy2:z[j % i.size]?=some y:=by
    rw [List.getElem?_replicate] at hy
    split at hy
    ·simpa using hy
    ·cases hy
   have hzs':zv.cells.size=i.size:=by rw [hzs,h6]
   refine .d _ _ (hzr (j % i.size) y u hy2 ?_)
   simp only [madeCells,Array.toList_map,Array.toList_range,lgM,omS] at hu'
   obtain ⟨k,hk,rfl⟩:=hu'
   rw [List.getElem?_range hjl] at hk
   injection hk with hk;subst hk
   rw [hzs',Array.getElem?_toList,getElem!_pos zv.cells (j % i.size) (by omega)]
   simp [show j % i.size<zv.cells.size by omega]
  obtain ⟨g1,k1,k2,k3⟩:=hs.newBlk (e:=e) hcl (by rw [List.all_eq_true];intro x hx;rw [List.mem_map] at hx;obtain ⟨y,_,rfl⟩:=hx;rfl) (Jtna hcl)
  obtain ⟨r,hr1,hr2⟩:=k3.ptr_inv
  have hp:=k1.put (P:=P) (dst:=o.dst) hd (x:=.hsl st.H.length 0 i.size lv) (v:=.slice (some ⟨w.heap.size,0,none⟩) lv lv)
   (.hsl _ _ _ _ r _ _ hr1 (Nat.le_refl _) (fun _=>by injection hr2 with hr2) (fun _=>by
    have hr3:r=w.heap.size:=by simp at hr2;omega
    rw [hr3,Jtcw (heap_alloc_new w _)]
    have hzs':zv.cells.size=i.size:=by rw [hzs,h6]
    simp [madeCells,hzs'])) (fun org e rows h=>by cases h) (fun e rows h=>by cases h)
  exact Jt1lb hex (hg.1 _ _ _ _ hK hp.1 (k2.trans (Step.same hp.2 (put_H _ _ _))))
 ·exact Jtth hs ho hu hn (by unfold byOf;rw [hi]) (Jt1li hz) hl hc hd h1 h2 h3 h4 h5 (by rw [List.length_map];exact h6) (Jtu1 _) hK hg
theorem Jtv(hs:Sim N st g a w){o:Oper}{c:Call}{t e:TypeId}{n b:Nat}{z:List AV}{x y:Operand}{x' y':Opd}{K:ASt→Prop}{QP:AV→ASt→Prop}{next:Act→World→Prop}
  {Q:Exit→Act→World→Prop} (ho:o.op=.call c) (hcal:c.callee=.builtin .append) (hargs:c.args.toList=[x,y]) (hts:c.argTypes.toList=[t,t]) (hu:P.underlying t=some (.slice e))
  (hn:szOf P e=some n) (hb:byOf P e=some b) (hz:zeroOf P e=some z) (hzl:z.length=n) (hx:cOpd x=some x') (hy:cOpd y=some y') (hd:∀ d,o.dst=some d→d<N)
  (h:AWapp n b x' y' o.dst K st) (hg:GoesOn N st g a w K QP next Q):o.wp P a w next Q:=by
 obtain ⟨org,e0,rows,ys,hgr,hap,he0,hyl,hpos,hsm,hby,hK⟩:=h
 obtain ⟨inf,hinf,rfl⟩:=Jt1e1 hn
 obtain ⟨i,zv,hi,hzv,hzr⟩:=Jt1lk (P:=P) (F:=g.F) (φ:=g.φ) (w:=w) hz
 rw [hi] at hinf;injection hinf with hinf;subst hinf
 have hbe:i.bytes=b:=by unfold byOf at hb;rw [hi] at hb;injection hb
 subst hbe
 have hzs:zv.cells.size=i.size:=by have:=hzr.1;simp at this;omega
 have e1:c.args=#[x,y]:=by rw [←hargs]
 have e2:c.argTypes=#[t,t]:=by rw [←hts]
 obtain ⟨A,cy,news,hyv,hnl,hnews,hAn,hnr⟩:=Jt7o hs hy hap hyl
 have hex:∀ v w',(Builtin.append_ #[t,t] o.type #[a.eval x,.slice A ys.length cy]).run P w=.ok v w'→(execOp a.eval o).run P w=.ok (.value v) w':=by
  intro v w' hr
  unfold execOp
  simp only [ho,resolve,hcal,e1,e2,invoke,builtin,Sem.run_bind,Sem.run_pure,Result.andThen_ok,List.map_toArray,List.map_cons,List.map_nil,hyv,hr]
 rcases Jth5 hs hx hgr with ⟨rfl,rfl,hxv⟩ | ⟨p,rfl,hp1,hp2,hp3⟩
 ·obtain ⟨v,w',g',k1,k2,k3,k4,k5⟩:=Jt7m (P:=P) hs (O:=Mine st g a w) (fun r h=>h) (dst:=o.dst) hd (ty:=o.type) hu hi hzv hzs rfl hpos (rows:=[]) (ys:=ys) (v0:=a.eval x) (.inl ⟨none,hxv,rfl,.inl rfl⟩)
   (cy:=cy) hnl hnews hAn hyl hnr hsm hby
  exact Jt1lb (hex _ _ k1) (hg.1 _ _ _ _ hK k2 ⟨k3,k4,fun b r hb=>by rw [k5];exact hb,by rw [put_H];exact Nat.le_refl _,Jty1 _ _ _⟩)
 ·have:=he0 rfl
  subst this
  obtain ⟨d1,d2,d3,d4⟩:=hs.dropOwn hp1
  have hown:=hs.own p i.size rows _ hp1 hp2
  have howner:∀ r n cap,a.eval x=.slice (some ⟨r,0,none⟩) n cap→Owner st g.φ a w p r:=fun r n cap h=>⟨i.size,rows,_,hp1,hp2,n,cap,h⟩
  have hsub:∀ r,Mine (Go.AE.dropOwn p rows st) g a w r→Mine st g a w r:=by
   rintro r (⟨b,hb⟩ | ⟨q,hq⟩)
   ·exact .inl ⟨b,hb⟩
   ·exact .inr ⟨q,(d2 q r hq).2⟩
  obtain ⟨v,w',g',k1,k2,k3,k4,k5⟩:=Jt7m (P:=P) d1 (O:=Mine st g a w) hsub (dst:=o.dst) hd (ty:=o.type) hu hi hzv hzs rfl hpos (rows:=rows) (ys:=ys) (v0:=a.eval x)
   (by
    rcases hown with ⟨h1,h2⟩ | ⟨r,cap,cc,te,h1,h2,h3,h4,h5,h6,h7⟩
    ·exact .inl ⟨none,h1,h2,.inl rfl⟩
    ·refine .inr ⟨r,⟨cap,cc,te,h1,h2,h3,h4,h5,h6,h7⟩,hp3,.inr ⟨p,howner r _ _ h1⟩,?_⟩
     rintro q (⟨b,hb⟩ | ⟨p',hp'⟩) rfl
     ·exact hs.apart p q b (howner q _ _ h1) hb
     ·obtain ⟨m1,m2⟩:=d2 p' q hp'
      exact m1 (hs.excl _ _ q m2 (howner q _ _ h1)))
   (cy:=cy) hnl hnews hAn hyl hnr hsm hby
  exact Jt1lb (hex _ _ k1) (hg.1 _ _ _ _ hK k2 ⟨k3,k4,fun b r hb=>by rw [k5];exact hb,by rw [put_H,d4];exact Nat.le_refl _,Jty1 _ _ _⟩)
theorem Jt10(hs:Sim N st g a w){o:Oper}{c:Call}{t e:TypeId}{n b:Nat}{z:List AV}{x y:Operand}{y':Opd}{a0 i0:Nat}{rows:List (List D)} {K:ASt→Prop} {QP:AV→ASt→Prop} {next:Act→World→Prop}
  {Q:Exit→Act→World→Prop} (ho:o.op=.call c) (hcal:c.callee=.builtin .append) (hargs:c.args.toList=[x,y]) (hts:c.argTypes.toList=[t,t]) (hu:P.underlying t=some (.slice e))
  (hn:szOf P e=some n) (hb:byOf P e=some b) (hz:zeroOf P e=some z) (hzl:z.length=n) (hx:cOpd x=some (.t a0)) (hy:cOpd y=some y') (hd:∀ d,o.dst=some d→d<N)
  (ha0:get st.env a0=some (.view (.tmp i0) n rows)) (h:AWappq n b a0 i0 rows y' o.dst K st) (hg:GoesOn N st g a w K QP next Q):o.wp P a w next Q:=by
 obtain ⟨hi0,hne0,hnv,d,ys,hdst,hda,hdi,hdo,hap,hyl,hpos,hsm,hby,hK⟩:=h
 obtain ⟨inf,hinf,rfl⟩:=Jt1e1 hn
 obtain ⟨i,zv,hi,hzv,hzr⟩:=Jt1lk (P:=P) (F:=g.F) (φ:=g.φ) (w:=w) hz
 rw [hi] at hinf;injection hinf with hinf;subst hinf
 have hbe:i.bytes=b:=by unfold byOf at hb;rw [hi] at hb;injection hb
 subst hbe
 have hzs:zv.cells.size=i.size:=by have:=hzr.1;simp at this;omega
 have e1:c.args=#[x,y]:=by rw [←hargs]
 have e2:c.argTypes=#[t,t]:=by rw [←hts]
 obtain ⟨A,cy,news,hyv,hnl,hnews,hAn,hnr⟩:=Jt7o hs hy hap hyl
 have hex:∀ v w',(Builtin.append_ #[t,t] o.type #[a.eval x,.slice A ys.length cy]).run P w=.ok v w'→(execOp a.eval o).run P w=.ok (.value v) w':=by
  intro v w' hr
  unfold execOp
  simp only [ho,resolve,hcal,e1,e2,invoke,builtin,Sem.run_bind,Sem.run_pure,Result.andThen_ok,List.map_toArray,List.map_cons,List.map_nil,hyv,hr]
 have hxt:x=.tmp a0:=by
  unfold cOpd at hx;split at hx
  ·injection hx with hx;injection hx with hx;rw [hx]
  ·split at hx<;>cases hx
  ·cases hx
  ·cases hx
 subst hxt
 obtain ⟨d1,d2⟩:=hs.dropTmp1 hi0 ha0 hnv
 obtain ⟨v1,v2⟩:=hs.view a0 (.tmp i0) i.size rows ha0
 have hown:=hs.own (.tmp i0) i.size rows _ v1 v2
 have howner:∀ r n cap,a.eval (.tmp a0)=.slice (some ⟨r,0,none⟩) n cap→Owner st g.φ a w (.tmp i0) r:=fun r n cap h=>⟨i.size,rows,_,v1,v2,n,cap,h⟩
 have hp3:PRel g.F w (.sl rows) (a.eval (.tmp a0)):=(hs.env a0 _ ha0).d_inv
 have hsub:∀ r,Mine ⟨(a0,.d (.sl rows))::(i0,.d (.sl rows))::st.env,st.H⟩ g a w r→Mine st g a w r:=by
  rintro r (⟨b,hb⟩ | ⟨q,hq⟩)
  ·exact .inl ⟨b,hb⟩
  ·exact .inr ⟨q,(d2 q r hq).2⟩
 obtain ⟨v,w',g',k1,k2,k3,k4,k5⟩:=Jt7m (P:=P) d1 (O:=Mine st g a w) hsub (dst:=o.dst) hd (ty:=o.type) hu hi hzv hzs rfl hpos (rows:=rows) (ys:=ys) (v0:=a.eval (.tmp a0))
  (by
   rcases hown with ⟨h1,h2⟩ | ⟨r,cap,cc,te,h1,h2,h3,h4,h5,h6,h7⟩
   ·exact .inl ⟨none,h1,h2,.inl rfl⟩
   ·refine .inr ⟨r,⟨cap,cc,te,h1,h2,h3,h4,h5,h6,h7⟩,hp3,.inr ⟨_,howner r _ _ h1⟩,?_⟩
    rintro q (⟨b,hb⟩ | ⟨p',hp'⟩) rfl
    ·exact hs.apart _ q b (howner q _ _ h1) hb
    ·obtain ⟨m1,m2⟩:=d2 p' q hp'
     exact m1 (hs.excl _ _ q m2 (howner q _ _ h1)))
  (cy:=cy) hnl hnews hAn hyl hnr hsm hby
 have hput:Go.AE.put o.dst (.own i.size (rows++ys)) ⟨(a0,.d (.sl rows))::(i0,.d (.sl rows))::st.env,st.H⟩=⟨(d,.own i.size (rows++ys))::(a0,.d (.sl rows))::(i0,.d (.sl rows))::st.env,st.H⟩:=by
  rw [hdst]
  simp only [Go.AE.put]
  split
  ·rename_i e' r' h'
   simp only [get] at h'
   rw [if_neg (fun h=>hda h.symm),if_neg (fun h=>hdi h.symm)] at h'
   exact absurd h' (hdo e' r')
  ·rfl
 rw [hput] at k2 k4
 exact Jt1lb (hex _ _ k1) (hg.1 _ _ _ _ hK k2 ⟨k3,k4,fun b r hb=>by rw [k5];exact hb,Nat.le_refl _,Jty1 _ _ _⟩)
theorem Jtr(hs:Sim N st g a w){o:Oper}{c:Call}{t e:TypeId}{n b:Nat}{z:List AV}{x y:Operand}{x' y':Opd}{K:ASt→Prop}{QP:AV→ASt→Prop}{next:Act→World→Prop}
  {Q:Exit→Act→World→Prop} (ho:o.op=.call c) (hcal:c.callee=.builtin .append) (hargs:c.args.toList=[x,y]) (hts:c.argTypes.toList=[t,t]) (hu:P.underlying t=some (.slice e))
  (hn:szOf P e=some n) (hb:byOf P e=some b) (hz:zeroOf P e=some z) (hzl:z.length=n) (hx:cOpd x=some x') (hy:cOpd y=some y') (hd:∀ d,o.dst=some d→d<N)
  (hsrc:evr st.env x'=some .nils∨evr st.env x'=some .nile) (h:AWapp0 n b y' o.dst K st) (hg:GoesOn N st g a w K QP next Q):o.wp P a w next Q:=by
 obtain ⟨ys,hap,hyl,hpos,hsm,hby,hK0,hK1⟩:=h
 obtain ⟨inf,hinf,rfl⟩:=Jt1e1 hn
 obtain ⟨i,zv,hi,hzv,hzr⟩:=Jt1lk (P:=P) (F:=g.F) (φ:=g.φ) (w:=w) hz
 rw [hi] at hinf;injection hinf with hinf;subst hinf
 have hbe:i.bytes=b:=by unfold byOf at hb;rw [hi] at hb;injection hb
 subst hbe
 have hzs:zv.cells.size=i.size:=by have:=hzr.1;simp at this;omega
 have e1:c.args=#[x,y]:=by rw [←hargs]
 have e2:c.argTypes=#[t,t]:=by rw [←hts]
 obtain ⟨A,cy,news,hyv,hnl,hnews,hAn,hnr⟩:=Jt7o hs hy hap hyl
 have hex:∀ v w',(Builtin.append_ #[t,t] o.type #[a.eval x,.slice A ys.length cy]).run P w=.ok v w'→(execOp a.eval o).run P w=.ok (.value v) w':=by
  intro v w' hr
  unfold execOp
  simp only [ho,resolve,hcal,e1,e2,invoke,builtin,Sem.run_bind,Sem.run_pure,Result.andThen_ok,List.map_toArray,List.map_cons,List.map_nil,hyv,hr]
 have hxv:∃ a0,a.eval x=.slice a0 0 0:=by
  rcases hsrc with h | h
  ·exact ⟨none,(Jtfd hs hx h).1.nils_inv⟩
  ·exact (Jtfd hs hx h).1.nile_inv
 obtain ⟨a0,hxv⟩:=hxv
 by_cases hys:ys=[]
 ·have hK:=hK0 hys
  subst hys
  have hnil:news=[]:=List.eq_nil_of_length_eq_zero (by simpa using hnl)
  have hrun:(Builtin.append_ #[t,t] o.type #[a.eval x,.slice A 0 cy]).run P w=.ok (.slice a0 0 0) w:=by
   rw [hxv]
   cases a0<;>cases A<;>simp [Builtin.append_,run_underlying hu,sizeOf,typeInfo,hi,Builtin.lenOf,Builtin.firstCells,loadCells,loadCellsFrom,storeCells]
  refine Jt1lb (hex _ _ hrun) ?_
  have hp:=hs.put (P:=P) (dst:=o.dst) hd (x:=.nile) (v:=.slice a0 0 0) (.nile a0) (fun org e rows h=>by cases h) (fun e rows h=>by cases h)
  exact hg.1 _ _ _ _ hK hp.1 (Step.same hp.2 (put_H _ _ _))
 ·have hK:=hK1 hys
  obtain ⟨v,w',g',k1,k2,k3,k4,k5⟩:=Jt7m (P:=P) hs (O:=Mine st g a w) (fun r h=>h) (dst:=o.dst) hd (ty:=o.type) hu hi hzv hzs rfl hpos (rows:=[]) (ys:=ys) (v0:=a.eval x) (.inl ⟨a0,hxv,rfl,.inr hys⟩)
   (cy:=cy) hnl hnews hAn hyl hnr (by simpa using hsm) (by simpa using hby)
  exact Jt1lb (hex _ _ k1) (hg.1 _ _ _ _ hK k2 ⟨k3,k4,fun b r hb=>by rw [k5];exact hb,by rw [put_H];exact Nat.le_refl _,Jty1 _ _ _⟩)
theorem Jtt(hs:Sim N st g a w){o:Oper}{c:Call}{t e:TypeId}{n b:Nat}{z:List AV}{x y:Operand}{x' y':Opd}{K:ASt→Prop}{QP:AV→ASt→Prop}{next:Act→World→Prop}
  {Q:Exit→Act→World→Prop} (ho:o.op=.call c) (hcal:c.callee=.builtin .append) (hargs:c.args.toList=[x,y]) (hts:c.argTypes.toList=[t,t]) (hu:P.underlying t=some (.slice e))
  (hn:szOf P e=some n) (hb:byOf P e=some b) (hz:zeroOf P e=some z) (hzl:z.length=n) (hx:cOpd x=some x') (hy:cOpd y=some y') (hd:∀ d,o.dst=some d→d<N)
  (hsrc:evr st.env x'=some .nils∨evr st.env x'=some .nile) (h:Jts n b y' o.dst K st) (hg:GoesOn N st g a w K QP next Q):o.wp P a w next Q:=by
 obtain ⟨ys,hap,hyl,hpos,hsm,hby,hys,hK⟩:=h
 obtain ⟨inf,hinf,rfl⟩:=Jt1e1 hn
 obtain ⟨i,zv,hi,hzv,hzr⟩:=Jt1lk (P:=P) (F:=g.F) (φ:=g.φ) (w:=w) hz
 rw [hi] at hinf;injection hinf with hinf;subst hinf
 have hbe:i.bytes=b:=by unfold byOf at hb;rw [hi] at hb;injection hb
 subst hbe
 have hzs:zv.cells.size=i.size:=by have:=hzr.1;simp at this;omega
 have e1:c.args=#[x,y]:=by rw [←hargs]
 have e2:c.argTypes=#[t,t]:=by rw [←hts]
 obtain ⟨A,cy,news,hyv,hnl,hnews,hAn,hnr⟩:=Jt7o hs hy hap hyl
 have hex:∀ v w',(Builtin.append_ #[t,t] o.type #[a.eval x,.slice A ys.length cy]).run P w=.ok v w'→(execOp a.eval o).run P w=.ok (.value v) w':=by
  intro v w' hr
  unfold execOp
  simp only [ho,resolve,hcal,e1,e2,invoke,builtin,Sem.run_bind,Sem.run_pure,Result.andThen_ok,List.map_toArray,List.map_cons,List.map_nil,hyv,hr]
 have hxv:∃ a0,a.eval x=.slice a0 0 0:=by
  rcases hsrc with h | h
  ·exact ⟨none,(Jtfd hs hx h).1.nils_inv⟩
  ·exact (Jtfd hs hx h).1.nile_inv
 obtain ⟨a0,hxv⟩:=hxv
 have hy0:ys.length≠0:=fun h=>hys (List.eq_nil_of_length_eq_zero h)
 have hpos':0<ys.length:=Nat.pos_of_ne_zero hy0
 have hml:ys.length≤maxLen:=by unfold maxLen;omega
 cases A with
 | none=>exact absurd (hAn rfl) hy0
 | some ad=>
  have h1:∀ u∈news,u.oneCell'=true:=by
   intro u hu
   obtain ⟨j,hj⟩:=List.getElem?_of_mem hu
   have hlt:j<ys.flatten.length:=by
    rw [Jtgb ys i.size hyl,←hnl]
    exact (lgS.1 hj).1
   exact (hnr j ys.flatten[j] u (by simp [hlt]) hj).one
  have hca:Jtah w ad news:=by
   rcases hnews with rfl | ⟨ad',h,hca⟩
   ·exact fun j u h=>by simp at h
   ·injection h with h;subst h;exact hca
  have hrun:(Builtin.append_ #[t,t] o.type #[a.eval x,.slice (some ad) ys.length cy]).run P w =
    .ok (.slice (some ⟨w.heap.size,0,none⟩) ys.length (grownCap w ys.length 0 e)) (w.drew.alloc (.cells (news.toArray++Builtin.zeroCells zv.cells (grownCap w ys.length 0 e-ys.length)) e)):=by
   rw [hxv]
   cases a0 with
   | none=>exact run_append_nil (P:=P) w t o.type e i zv hu hi hzv ad ys.length cy news hnl hca (by omega) (by omega) (by omega)
   | some b0=>
    have:=run_append_grow (P:=P) w t o.type e i zv hu hi hzv b0 0 0 [] (by simp) (fun j v h=>by simp at h) ad ys.length cy news hnl hca (by omega) (by omega) (by rw [Nat.zero_add,nextslicecap_zero (by omega)];omega)
    simpa using this
  have hge:=grownCap_ge w ys.length 0 e
  have hle:=grownCap_le_maxLen w ys.length 0 e hml
  have hsd:=hs.drew
  have hfl:=Jtgb ys i.size hyl
  obtain ⟨g1,k1,k2,k3⟩:=hsd.1.newBlkW (e:=e) (cells:=ys.flatten.map AV.d) (c:=news.toArray++Builtin.zeroCells zv.cells (grownCap w ys.length 0 e-ys.length))
   (by simp only [List.length_map,hfl,Array.size_append,List.size_toArray,hnl];omega)
   (fun j x u hx hu=>by
    rw [lgM,omS] at hx
    obtain ⟨y,hy,rfl⟩:=hx
    have hj:j<news.length:=by rw [hnl,←hfl];exact (lgS.1 hy).1
    have hu':news[j]?=some u:=by
     rw [←Array.getElem?_toList,Array.toList_append,lgA (by simpa using hj)] at hu
     exact hu
    refine .d _ _ ?_
    exact PRel.stab (F:=g.F) (w:=w) (F':=g.F) (w':=w.drew) ⟨fun _ _=>Nat.le_refl _,fun _ _ _ _ h=>h,fun _=>Nat.le_refl _⟩ (hnr j y u hy hu'))
   (by rw [List.all_eq_true];intro x hx;rw [List.mem_map] at hx;obtain ⟨y,_,rfl⟩:=hx;rfl) (fun x hx e' rows' h=>by rw [List.mem_map] at hx;obtain ⟨y,_,rfl⟩:=hx;cases h)
  obtain ⟨r,hr1,hr2⟩:=k3.ptr_inv
  have hp:=k1.put (P:=P) (dst:=o.dst) hd (x:=.hsl st.H.length 0 i.size ys.length) (v:=.slice (some ⟨w.heap.size,0,none⟩) ys.length (grownCap w ys.length 0 e))
   (.hsl _ _ _ _ r _ _ hr1 hge (fun _=>by injection hr2 with hr2) (fun _=>by
    have hr3:r=w.drew.heap.size:=by simp at hr2;simp;omega
    rw [hr3,Jtcw (heap_alloc_new w.drew _)]
    have hge':=Nat.mul_le_mul_right i.size hge
    rw [Array.size_append,List.size_toArray,size_zeroCells,hzs,hnl,←Nat.add_mul]
    rw [show ys.length+(grownCap w ys.length 0 e-ys.length)=grownCap w ys.length 0 e by omega];omega)) (fun org e rows h=>by cases h) (fun e rows h=>by cases h)
  have hst:Step st g a w.drew (Go.AE.put o.dst (.hsl st.H.length 0 i.size ys.length) ⟨st.env,st.H++[.mem (ys.flatten.map AV.d)]⟩) g1 _ _:=k2.trans (Step.same hp.2 (put_H _ _ _))
  refine Jt1lb (hex _ _ hrun) (hg.1 _ _ _ _ hK hp.1 ⟨?_,?_,hst.φ,hst.H,hst.df⟩)
  ·have htr:Tr (Mine st g a w.drew) g w g1 _:=⟨hst.tr.os,hst.tr.tape,hst.tr.output,hst.tr.size,hst.tr.other,⟨hst.tr.stab.le,hst.tr.stab.cell,hst.tr.stab.size⟩⟩
   exact htr.mono fun r hr=>(hsd.2 r).1 hr
  ·intro r hr
   rcases hst.mine r hr with h | h
   ·exact .inl ((hsd.2 r).1 h)
   ·exact .inr h
theorem Jty(hs:Sim N st g a w){o:Oper}{c:Call}{t e:TypeId}{n b:Nat}{z:List AV}{x y:Operand}{x' y':Opd}{K:ASt→Prop}{QP:AV→ASt→Prop}{next:Act→World→Prop}
  {Q:Exit→Act→World→Prop} (ho:o.op=.call c) (hcal:c.callee=.builtin .append) (hargs:c.args.toList=[x,y]) (hts:c.argTypes.toList=[t,t]) (hu:P.underlying t=some (.slice e))
  (hn:szOf P e=some n) (hb:byOf P e=some b) (hz:zeroOf P e=some z) (hzl:z.length=n) (hx:cOpd x=some x') (hy:cOpd y=some y') (hd:∀ d,o.dst=some d→d<N)
  {bk len cap r:Nat} {cells:List AV} {ys:List (List D)} (hr:g.φ bk=some r) (hA0:a.eval x=.slice (some ⟨r,0,none⟩) len cap) (hcap:len≤cap) (hroom:cap*n≤csize w r) (hbk:st.H[bk]?=some (.mem cells)) (hcl:cells.length=len*n)
  (hno:cells.all (fun x=>match x with | .own ..=>false | .view ..=>false | _=>true)=true) (hap:Jt7n st.env y'=some ys) (hyl:∀ r∈ys,r.length=n) (hpos:0<n) (hys:ys≠[]) (hsm:len+ys.length≤1000000000000000000)
  (hby:(len+ys.length)*b≤140737488355328) (hK1:K (put o.dst (.hsl bk 0 n (len+ys.length)) ⟨unview st.env,st.H.set bk (.mem (cells++ys.flatten.map AV.d))⟩)) (hK2:K (put o.dst (.hsl st.H.length 0 n (len+ys.length)) ⟨st.env,st.H++[.mem (cells++ys.flatten.map AV.d)]⟩))
  (hg:GoesOn N st g a w K QP next Q):o.wp P a w next Q:=by
 obtain ⟨inf,hinf,rfl⟩:=Jt1e1 hn
 obtain ⟨i,zv,hi,hzv,hzr⟩:=Jt1lk (P:=P) (F:=g.F) (φ:=g.φ) (w:=w) hz
 rw [hi] at hinf;injection hinf with hinf;subst hinf
 have hbe:i.bytes=b:=by unfold byOf at hb;rw [hi] at hb;injection hb
 subst hbe
 have hzs:zv.cells.size=i.size:=by have:=hzr.1;simp at this;omega
 have e1:c.args=#[x,y]:=by rw [←hargs]
 have e2:c.argTypes=#[t,t]:=by rw [←hts]
 obtain ⟨cc,te,hc,hcs,hrel,hcell⟩:=hs.block hbk hr
 rw [Jtcw hc] at hroom
 obtain ⟨A,cy,news,hyv,hnl,hnews,hAn,hnr⟩:=Jt7o hs hy hap hyl
 have hex:∀ v w',(Builtin.append_ #[t,t] o.type #[.slice (some ⟨r,0,none⟩) len cap,.slice A ys.length cy]).run P w=.ok v w'→(execOp a.eval o).run P w=.ok (.value v) w':=by
  intro v w' hr
  unfold execOp
  simp only [ho,resolve,hcal,e1,e2,invoke,builtin,Sem.run_bind,Sem.run_pure,Result.andThen_ok,List.map_toArray,List.map_cons,List.map_nil,hyv,hA0,hr]
 have hy0:ys.length≠0:=fun h=>hys (List.eq_nil_of_length_eq_zero h)
 have hml:len+ys.length≤maxLen:=by unfold maxLen;omega
 have hfl:=Jtgb ys i.size hyl
 have hnoC:∀ x∈cells,∀ e rows,x≠AV.own e rows:=by
  intro x hx e rows he
  have:=List.all_eq_true.1 hno x hx
  subst he
  cases this
 have hnoN:∀ x∈cells++ys.flatten.map AV.d,∀ e rows,x≠AV.own e rows:=by
  intro x hx e rows he
  rcases List.mem_append.1 hx with hx | hx
  ·exact hnoC x hx e rows he
  ·rw [List.mem_map] at hx;obtain ⟨y,_,rfl⟩:=hx;cases he
 cases A with
 | none=>exact absurd (hAn rfl) hy0
 | some ad=>
  have h1:∀ u∈news,u.oneCell'=true:=by
   intro u hu
   obtain ⟨j,hj⟩:=List.getElem?_of_mem hu
   have hlt:j<ys.flatten.length:=by
    rw [hfl,←hnl]
    exact (lgS.1 hj).1
   exact (hnr j ys.flatten[j] u (by simp [hlt]) hj).one
  have hca:Jtah w ad news:=by
   rcases hnews with rfl | ⟨ad',h,hca⟩
   ·exact fun j u h=>by simp at h
   ·injection h with h;subst h;exact hca
  have hmulc:len*i.size≤cap*i.size:=Nat.mul_le_mul_right _ hcap
  have htl:cc.toList.length=cc.size:=Array.length_toList
  by_cases hfitc:len+ys.length≤cap
  ·have hfit:len*i.size+news.length≤cc.size:=by
    rw [hnl,←Nat.add_mul];exact Nat.le_trans (Nat.mul_le_mul_right _ hfitc) hroom
   have hrun:=Jt177 (P:=P) (w:=w) t o.type e te i hu hi r len cap cc hc (some ad) ys.length cy news hnl (.inr ⟨ad,rfl,hca⟩) hAn h1 hfitc hfit
   have hget:∀ j,(cc.toList.take (len*i.size)++news++cc.toList.drop (len*i.size+news.length))[j]?=if j<len*i.size then cc[j]? else if j<len*i.size+news.length then news[j-len*i.size]? else cc[j]?:=by
    intro j
    have htk:(cc.toList.take (len*i.size)).length=len*i.size:=by rw [List.length_take,htl];omega
    split
    ·rename_i hj
     rw [List.append_assoc,lgA (by omega),List.getElem?_take,if_pos hj,Array.getElem?_toList]
    ·rename_i hj
     split
     ·rename_i hj2
      rw [lgA (by rw [List.length_append];omega),List.getElem?_append_right (by omega),htk]
     ·rename_i hj2
      rw [List.getElem?_append_right (by rw [List.length_append];omega),List.length_append,htk,List.getElem?_drop,Array.getElem?_toList]
      congr 1;omega
   have hm:=hs.unview.memUpdL (b:=bk) (r:=r) (cells:=cells) (cells':=cells++ys.flatten.map AV.d) (c:=cc) (c':=(cc.toList.take (len*i.size)++news++cc.toList.drop (len*i.size+news.length)).toArray) (e:=te)
    (cells.length+ys.flatten.length) (fun t org e rows h=>absurd h (Jtu2)) hbk hr hc
    (by rw [List.length_append,List.length_map,hfl,hcl,←hnl];exact hfit)
    (by simp only [List.size_toArray,List.length_append,List.length_take,List.length_drop,htl];omega)
    (fun j x hj=>by
     simp only [List.getElem?_toArray]
     rw [hget]
     by_cases hjl:j<len*i.size
     ·rw [if_pos hjl]
      rw [lgA (by omega)] at hj
      exact hrel j x hj
     ·rw [if_neg hjl]
      rw [List.getElem?_append_right (by omega),hcl,lgM,omS] at hj
      obtain ⟨d,hd',rfl⟩:=hj
      have hlt:=(lgS.1 hd').1
      have hlt2:j-len*i.size<news.length:=by rw [hnl,←hfl];exact hlt
      rw [if_pos (by omega)]
      exact ⟨rfl,news[j-len*i.size],lgE hlt2,.d _ _ (hnr _ d _ hd' (lgE hlt2))⟩)
    (fun j e' rows hj hz=>absurd rfl (hnoN _ (lmG hz) e' rows))
    (fun e' rows hz=>absurd rfl (hnoN _ (lmG hz) e' rows))
   have hst:Step st g a w ⟨Go.AE.unview st.env,st.H.set bk (.mem (cells++ys.flatten.map AV.d))⟩ g a (w.setRow r (cc.toList.take (len*i.size)++news++cc.toList.drop (len*i.size+news.length)).toArray):=by
    refine ⟨hm.2.2.mono fun q hq=>Jt5b.1 hq,fun q hq=>?_,fun _ _ h=>h,by simp,rfl⟩
    rcases hm.2.1 q hq with h | ⟨e',rows,v,n',cap',h,_⟩
    ·exact .inl (Jt5b.1 h)
    ·exact absurd rfl (hnoN _ (lmG h) e' rows)
   have hsame:=setRow_heap w r cc (cc.toList.take (len*i.size)++news++cc.toList.drop (len*i.size+news.length)).toArray te _ hc
   have hp:=hm.1.put (P:=P) (dst:=o.dst) hd (x:=.hsl bk 0 i.size (len+ys.length)) (v:=.slice (some ⟨r,0,none⟩) (len+ys.length) cap)
    (.hsl _ _ _ _ r _ _ hr hfitc (fun _=>rfl) (fun _=>by
     rw [Jtcw hsame]
     simp only [List.size_toArray,List.length_append,List.length_take,List.length_drop,htl]
     omega)) (fun org e rows h=>by cases h) (fun e rows h=>by cases h)
   exact Jt1lb (hex _ _ hrun) (hg.1 _ _ _ _ hK1 hp.1 (hst.trans (Step.same hp.2 (put_H _ _ _))))
  ·have holds:∀ j v,(cc.toList.take (len*i.size))[j]?=some v→w.cell? ((⟨r,0,none⟩:Addr).add j)=some v:=by
    intro j v hv
    rw [List.getElem?_take] at hv
    split at hv
    ·rw [Addr.add_lit,Nat.zero_add,cell_of_row w r j cc te (0,0) hc,←Array.getElem?_toList];exact hv
    ·cases hv
   have hol:(cc.toList.take (len*i.size)).length=len*i.size:=by rw [List.length_take,htl];omega
   have hrun:=run_append_grow (P:=P) w t o.type e i zv hu hi hzv ⟨r,0,none⟩ len cap (cc.toList.take (len*i.size)) hol holds ad ys.length cy news hnl hca (by omega) (by omega) (growslice_fits (by omega) hby)
   have hge:=grownCap_ge w (len+ys.length) cap e
   have hsd:=hs.drew
   obtain ⟨g1,k1,k2,k3⟩:=hsd.1.newBlkW (e:=e) (cells:=cells++ys.flatten.map AV.d) (c:=(cc.toList.take (len*i.size)).toArray++news.toArray++Builtin.zeroCells zv.cells (grownCap w (len+ys.length) cap e-(len+ys.length)))
    (by simp only [List.length_append,List.length_map,hfl,Array.size_append,List.size_toArray,hnl,hol,hcl];omega)
    (fun j x u hx hu=>by
     have hcells:(cells++ys.flatten.map AV.d).length=len*i.size+news.length:=by rw [List.length_append,List.length_map,hfl,hcl,hnl]
     have hj:j<len*i.size+news.length:=by rw [←hcells];exact (lgS.1 hx).1
     have hu':(cc.toList.take (len*i.size)++news)[j]?=some u:=by
      rw [←Array.getElem?_toList,Array.toList_append,lgA (by simp;omega)] at hu
      simpa using hu
     by_cases hjl:j<len*i.size
     ·rw [lgA (by omega),List.getElem?_take,if_pos hjl,Array.getElem?_toList] at hu'
      rw [lgA (by omega)] at hx
      obtain ⟨_,u2,m2,m3⟩:=hrel j x hx
      rw [hu'] at m2;injection m2 with m2;subst m2
      have hxe:x.erase=x:=by
       have:=List.all_eq_true.1 hno x (lmG hx)
       cases x<;>first|rfl | cases this
      rw [hxe] at m3
      exact Rel.stab (F:=g.F) (w:=w) (F':=g.F) (w':=w.drew) ⟨fun _ _=>Nat.le_refl _,fun _ _ _ _ h=>h,fun _=>Nat.le_refl _⟩ (fun _ _ h=>h) m3
     ·rw [List.getElem?_append_right (by omega),hol] at hu'
      rw [List.getElem?_append_right (by omega),hcl,lgM,omS] at hx
      obtain ⟨d,hd',rfl⟩:=hx
      refine .d _ _ ?_
      exact PRel.stab (F:=g.F) (w:=w) (F':=g.F) (w':=w.drew) ⟨fun _ _=>Nat.le_refl _,fun _ _ _ _ h=>h,fun _=>Nat.le_refl _⟩ (hnr _ d u hd' hu'))
    (by
     rw [List.all_eq_true];intro x hx
     rcases List.mem_append.1 hx with hx | hx
     ·obtain ⟨j,hj⟩:=List.getElem?_of_mem hx
      exact (hrel j x hj).1
     ·rw [List.mem_map] at hx;obtain ⟨y,_,rfl⟩:=hx;rfl) (fun x hx e' rows' h=>hnoN x hx e' rows' h)
   obtain ⟨q,hr1,hr2⟩:=k3.ptr_inv
   have hp:=k1.put (P:=P) (dst:=o.dst) hd (x:=.hsl st.H.length 0 i.size (len+ys.length)) (v:=.slice (some ⟨w.heap.size,0,none⟩) (len+ys.length) (grownCap w (len+ys.length) cap e))
    (.hsl _ _ _ _ q _ _ hr1 hge (fun _=>by injection hr2 with hr2) (fun _=>by
     have hr3:q=w.drew.heap.size:=by simp at hr2;simp;omega
     rw [hr3,Jtcw (heap_alloc_new w.drew _)]
     have hge':=Nat.mul_le_mul_right i.size hge
     rw [Array.size_append,Array.size_append,List.size_toArray,List.size_toArray,size_zeroCells,hzs,hnl,hol,←Nat.add_mul,←Nat.add_mul]
     rw [show len+ys.length+(grownCap w (len+ys.length) cap e-(len+ys.length))=grownCap w (len+ys.length) cap e by omega];omega)) (fun org e rows h=>by cases h) (fun e rows h=>by cases h)
   have hst:Step st g a w.drew (Go.AE.put o.dst (.hsl st.H.length 0 i.size (len+ys.length)) ⟨st.env,st.H++[.mem (cells++ys.flatten.map AV.d)]⟩) g1 _ _:=k2.trans (Step.same hp.2 (put_H _ _ _))
   refine Jt1lb (hex _ _ hrun) (hg.1 _ _ _ _ hK2 hp.1 ⟨?_,?_,hst.φ,hst.H,hst.df⟩)
   ·have htr:Tr (Mine st g a w.drew) g w g1 _:=⟨hst.tr.os,hst.tr.tape,hst.tr.output,hst.tr.size,hst.tr.other,⟨hst.tr.stab.le,hst.tr.stab.cell,hst.tr.stab.size⟩⟩
    exact htr.mono fun r hr=>(hsd.2 r).1 hr
   ·intro r hr
    rcases hst.mine r hr with h | h
    ·exact .inl ((hsd.2 r).1 h)
    ·exact .inr h
theorem Jtz(hs:Sim N st g a w){o:Oper}{c:Call}{t e:TypeId}{n b:Nat}{z:List AV}{x y:Operand}{x' y':Opd}{K:ASt→Prop}{QP:AV→ASt→Prop}{next:Act→World→Prop}
  {Q:Exit→Act→World→Prop} (ho:o.op=.call c) (hcal:c.callee=.builtin .append) (hargs:c.args.toList=[x,y]) (hts:c.argTypes.toList=[t,t]) (hu:P.underlying t=some (.slice e))
  (hn:szOf P e=some n) (hb:byOf P e=some b) (hz:zeroOf P e=some z) (hzl:z.length=n) (hx:cOpd x=some x') (hy:cOpd y=some y') (hd:∀ d,o.dst=some d→d<N)
  (h:AWapph n b x' y' o.dst K st) (hg:GoesOn N st g a w K QP next Q):o.wp P a w next Q:=by
 obtain ⟨bk,len,cells,ys,hxa,hbk,hcl,hlen0,hno,hap,hyl,hpos,hys,hsm,hby,hK1,hK2⟩:=h
 obtain ⟨r,cap,A0,hr,hA0,hcap,hne,hroom⟩:=(Jtfd hs hx hxa).1.hsl_inv
 have hA0':=hne (by omega)
 subst hA0'
 have hroom:=hroom (by omega)
 rw [Nat.zero_add] at hroom
 exact Jty hs ho hcal hargs hts hu hn hb hz hzl hx hy hd hr hA0 hcap hroom hbk hcl hno hap hyl hpos hys hsm hby hK1 hK2 hg
theorem Jtx(hs:Sim N st g a w){o:Oper}{c:Call}{t e:TypeId}{n b:Nat}{z:List AV}{x y:Operand}{x' y':Opd}{K:ASt→Prop}{QP:AV→ASt→Prop}{next:Act→World→Prop}
  {Q:Exit→Act→World→Prop} (ho:o.op=.call c) (hcal:c.callee=.builtin .append) (hargs:c.args.toList=[x,y]) (hts:c.argTypes.toList=[t,t]) (hu:P.underlying t=some (.slice e))
  (hn:szOf P e=some n) (hb:byOf P e=some b) (hz:zeroOf P e=some z) (hzl:z.length=n) (hx:cOpd x=some x') (hy:cOpd y=some y') (hd:∀ d,o.dst=some d→d<N)
  (h:Jtw n b x' y' o.dst K st) (hg:GoesOn N st g a w K QP next Q):o.wp P a w next Q:=by
 obtain ⟨bk,ys,hxa,hbk,hap,hyl,hpos,hys,hsm,hby,hK1,hK2⟩:=h
 obtain ⟨r,cap,hr,hA0,hroom⟩:=(Jtfd hs hx hxa).1.hsl0_inv
 exact Jty (len:=0) (cells:=[]) hs ho hcal hargs hts hu hn hb hz hzl hx hy hd hr hA0 (Nat.zero_le _) hroom hbk (by simp) rfl hap hyl hpos hys (by omega) (by simpa using hby) (by simpa using hK1) (by simpa using hK2) hg
theorem Jt3l(hs:Sim N st g a w){o:Oper}{neg:Bool}{t u e:TypeId}{x:Operand}{x':Opd}{K:ASt→Prop}{QP:AV→ASt→Prop}{next:Act→World→Prop}{Q:Exit→Act→World→Prop}
  (ho:o.op=.binOp (if neg then .neq else .eql) t x (.const (.slice none 0 0)) u) (hu:P.underlying t=some (.slice e)) (hx:cOpd x=some x') (hd:∀ d,o.dst=some d→d<N)
  (h:Jt3k neg x' o.dst K st) (hg:GoesOn N st g a w K QP next Q):o.wp P a w next Q:=by
 have hex:∀ A n cap,a.eval x=.slice A n cap→(execOp a.eval o).run P w=.ok (.value (.bool (A.isNone != neg))) w:=by
  intro A n cap hA
  have ec:∀ v,a.eval (.const v)=v:=fun _=>rfl
  have key:∀ d,0<d→(Op.equalIn d t (.slice A n cap) (.slice none 0 0)).run P w=.ok A.isNone w:=by
   intro d hd
   obtain ⟨d,rfl⟩:∃ d',d=d'+1:=⟨d-1,by omega⟩
   unfold Op.equalIn
   rw [Sem.run_bind,run_underlying hu]
   cases A<;>rfl
  have key2:(Op.equal t (.slice A n cap) (.slice none 0 0)).run P w=.ok A.isNone w:=key _ (by unfold Op.maxDepth;omega)
  have hb1:(binOp .eql t (.slice A n cap) (.slice none 0 0)).run P w=.ok (.bool A.isNone) w:=by
   have:binOp .eql t (.slice A n cap) (.slice none 0 0)=(do pure (.bool (←Op.equal t (.slice A n cap) (.slice none 0 0)))):=rfl
   rw [this,Sem.run_bind,key2];rfl
  have hb2:(binOp .neq t (.slice A n cap) (.slice none 0 0)).run P w=.ok (.bool !A.isNone) w:=by
   have:binOp .neq t (.slice A n cap) (.slice none 0 0)=(do pure (.bool (!(←Op.equal t (.slice A n cap) (.slice none 0 0))))):=rfl
   rw [this,Sem.run_bind,key2];rfl
  unfold execOp
  cases neg
  ·simp only [ho,hA,ec,Sem.run_bind,Bool.false_eq_true,if_false]
   simp [eqGuard,hb1]
  ·simp only [ho,hA,ec,Sem.run_bind,if_true]
   simp [eqGuard,hb2]
 have fin:∀ b:Bool,(execOp a.eval o).run P w=.ok (.value (.bool b)) w→K (Go.AE.put o.dst (.d (.bool b)) st)→o.wp P a w next Q:=by
  intro b hr hK
  refine Jt1lb hr ?_
  have hp:=hs.put (P:=P) (dst:=o.dst) hd (x:=.d (.bool b)) (v:=.bool b) (.d _ _ (.bool b)) (fun org e rows h=>by cases h) (fun e rows h=>by cases h)
  exact hg.1 _ _ _ _ hK hp.1 (Step.same hp.2 (put_H _ _ _))
 unfold Jt3k at h
 split at h
 ·rename_i hv
  exact fin _ (by simpa using hex _ _ _ (Jtfd hs hx hv).1.nils_inv) h
 ·rename_i hv
  obtain ⟨a0,ha0⟩:=(Jtfd hs hx hv).1.nile_inv
  cases a0 with
  | none=>exact fin _ (by simpa using hex _ _ _ ha0) h.1
  | some ad=>exact fin _ (by simpa using hex _ _ _ ha0) h.2
 ·rename_i rows hv
  obtain ⟨A,cap,hA,hcs⟩:=(Jtfd hs hx hv).1.d_inv.sl_inv
  cases A with
  | none=>
   have hr:rows=[]:=by
    rcases hcs with rfl | ⟨ad,esz,vs,h,_⟩
    ·rfl
    ·cases h
   exact fin _ (by simpa using hex _ _ _ hA) (h.1 hr)
  | some ad=>exact fin _ (by simpa using hex _ _ _ hA) h.2
 ·exact h.elim
theorem Sim.writeD(hs:Sim N st g a w){b r off:Nat}{cells:List AV}{ds:List D}{vs:List Value}(hb:st.H[b]?=some (.mem cells)) (hr:g.φ b=some r) (hle:off+ds.length≤cells.length)
  (hvl:vs.length=ds.length) (hv:∀ (j:Nat) (x:D) (u:Value),ds[j]?=some x→vs[j]?=some u→PRel g.F w x u) :
  ∃ c te,w.heap[r]?=some (.cells c te (0,0))∧cells.length≤c.size∧Sim N ⟨Go.AE.unview st.env,st.H.set b (.mem (spl cells off (ds.map AV.d)))⟩ g a (w.setRow r ⟨spl c.toList off vs⟩)∧
   Step st g a w ⟨Go.AE.unview st.env,st.H.set b (.mem (spl cells off (ds.map AV.d)))⟩ g a (w.setRow r ⟨spl c.toList off vs⟩):=by
 obtain ⟨c,te,hc,hsz,hrel,hcell⟩:=hs.block hb hr
 have hle':off+(ds.map AV.d).length≤cells.length:=by simpa using hle
 have hcl:off+vs.length≤c.toList.length:=by have:=Array.length_toList (xs:=c);omega
 have hm:=hs.unview.memUpd (b:=b) (r:=r) (cells:=cells) (cells':=spl cells off (ds.map AV.d)) (c:=c) (c':=⟨spl c.toList off vs⟩) (e:=te)
  (fun t org e rows=>Jtu2) cells.length hb hr hc (Jt1cv _ _ _ hle')
  (by
   have:=Jt1cv c.toList off vs hcl
   simpa using this)
  (by
   intro j z hz
   rw [Jt1cu _ _ _ hle'] at hz
   have hcc:=Jt1cu c.toList off vs hcl j
   rw [List.length_map] at hz
   rw [hvl] at hcc
   split at hz
   ·rename_i hj
    rw [if_pos hj] at hcc
    rw [lgM,omS] at hz
    obtain ⟨y,hy,rfl⟩:=hz
    have hlt:j-off<vs.length:=by omega
    refine ⟨rfl,vs[j-off],?_,.d _ _ (hv _ y _ hy (lgE hlt))⟩
    simp only [List.getElem?_toArray];rw [hcc];exact lgE hlt
   ·rename_i hj
    rw [if_neg hj] at hcc
    obtain ⟨m1,u,m2,m3⟩:=hrel j z hz
    exact ⟨m1,u,by simp only [List.getElem?_toArray];rw [hcc,Array.getElem?_toList];exact m2,m3⟩)
  (by
   intro j e rows hj hz
   rw [Jt1cu _ _ _ hle'] at hz
   have hcc:=Jt1cu c.toList off vs hcl j
   rw [List.length_map] at hz
   rw [hvl] at hcc
   split at hz
   ·rw [lgM,omS] at hz
    obtain ⟨y,_,hy⟩:=hz
    cases hy
   ·rename_i hj2
    rw [if_neg hj2] at hcc
    exact ⟨hz,by simp only [List.getElem?_toArray];rw [hcc,Array.getElem?_toList]⟩)
  (by
   intro e rows hz
   rw [List.getElem?_eq_none (by rw [Jt1cv _ _ _ hle'];exact Nat.le_refl _)] at hz
   cases hz)
 obtain ⟨m1,m2,m3⟩:=hm
 refine ⟨c,te,hc,hsz,m1,⟨m3.mono fun r hr=>Jt5b.1 hr,fun q hq=>?_,fun _ _ h=>h,by simp,rfl⟩⟩
 rcases m2 q hq with h | ⟨e,rows,u,n,cap,h,_⟩
 ·exact .inl (Jt5b.1 h)
 ·rw [List.getElem?_eq_none (by rw [Jt1cv _ _ _ hle'];exact Nat.le_refl _)] at h
  cases h
theorem Jt4z(hs:Sim N st g a w){o:Oper}{esz:Nat}{rows:List (List D)} {b off r:Nat} {v:AV} {u:Value} {vs:List Value} {K:ASt→Prop} {QP:AV→ASt→Prop} {next:Act→World→Prop} {Q:Exit→Act→World→Prop}
  (hd:∀ d,o.dst=some d→d<N) (hr:g.φ b=some r) (hvl:vs.length=rows.length*esz) (hv:∀ (j:Nat) (x:D) (u:Value),rows.flatten[j]?=some x→vs[j]?=some u→PRel g.F w x u)
  (hu:∀ w',Rel g.F g.φ w' v u) (hnv:∀ org e rows,v≠.view org e rows) (hno:∀ e rows,v≠.own e rows) (hve:v.erase=v)
  (hex:∀ (c:Array Value) (te:TypeId),w.heap[r]?=some (.cells c te (0,0))→off+vs.length≤c.size→(∀ x∈vs,x.oneCell'=true)→(execOp a.eval o).run P w=.ok (.value u) (w.setRow r ⟨spl c.toList off vs⟩))
  (h:AWwr esz rows b off o.dst v K st) (hg:GoesOn N st g a w K QP next Q):o.wp P a w next Q:=by
 obtain ⟨cells,hb,hle,hrl,hK⟩:=h
 have hfl:=Jtgb rows esz hrl
 obtain ⟨c,te,hc,hsz,h1,h2⟩:=hs.writeD (vs:=vs) (off:=off) hb hr (ds:=rows.flatten) (by omega) (by omega) hv
 have hone:∀ x∈vs,x.oneCell'=true:=by
  intro x hx
  obtain ⟨j,hj⟩:=List.getElem?_of_mem hx
  have hlt:j<rows.flatten.length:=by have:=(lgS.1 hj).1;omega
  exact (hv j rows.flatten[j] x (by simp [hlt]) hj).one
 have hp:=h1.put (P:=P) (dst:=o.dst) hd (x:=v) (v:=u) (by rw [hve];exact hu _) (fun org e rows h=>absurd h (hnv org e rows)) (fun e rows h=>absurd h (hno e rows))
 exact Jt1lb (hex c te hc (by omega) hone) (hg.1 _ _ _ _ hK hp.1 (h2.trans (Step.same hp.2 (put_H _ _ _))))
theorem Jts4{z:List D}{zv:Value}{sz lv:Nat}(h5:0<sz)(h6:z.length=sz)(hzs:zv.cells.size=z.length)(hzr:∀ (j:Nat) (x:D) (u:Value),z[j]?=some x→zv.cells.toList[j]?=some u→PRel g.F w x u) :
  (madeCells zv.cells (lv*sz)).toList.length=lv*sz∧∀ (j:Nat) (x:D) (u:Value),(List.replicate lv z).flatten[j]?=some x→(madeCells zv.cells (lv*sz)).toList[j]?=some u→PRel g.F w x u:=by
 have hrep:∀ r∈List.replicate lv z,r.length=sz:=fun r hr=>by rw [(List.mem_replicate.1 hr).2];exact h6
 have hflen:=Jtgb (List.replicate lv z) sz hrep
 rw [List.length_replicate] at hflen
 refine ⟨by simp [madeCells],fun j y u hy hu'=>?_⟩
 have hmod:j % sz<sz:=Nat.mod_lt _ h5
 have hdm:j=(j / sz)*sz+j % sz:=by rw [Nat.mul_comm];exact (Nat.div_add_mod j sz).symm
 have hjl:j<lv*sz:=by rw [←hflen];exact (lgS.1 hy).1
 rw [hdm,Jtg9 _ sz hrep _ _ hmod] at hy
 have hy2:z[j % sz]?=some y:=by
  rw [List.getElem?_replicate] at hy
  split at hy
  ·simpa using hy
  ·cases hy
 have hzs':zv.cells.size=sz:=by rw [hzs,h6]
 refine hzr (j % sz) y u hy2 ?_
 simp only [madeCells,Array.toList_map,Array.toList_range,lgM,omS] at hu'
 obtain ⟨k,hk,rfl⟩:=hu'
 rw [List.getElem?_range hjl] at hk
 injection hk with hk;subst hk
 rw [hzs',Array.getElem?_toList,getElem!_pos zv.cells (j % sz) (by omega)]
 simp [show j % sz<zv.cells.size by omega]
theorem Jt1g(hs:Sim N st g a w){o:Oper}{c:Call}{t e:TypeId}{n:Nat}{z:List D}{x:Operand}{x':Opd}{K:ASt→Prop}{QP:AV→ASt→Prop}{next:Act→World→Prop}
  {Q:Exit→Act→World→Prop} (ho:o.op=.call c) (hcal:c.callee=.builtin .clear) (hargs:c.args.toList=[x]) (hts:c.argTypes.toList=[t]) (hu:P.underlying t=some (.slice e))
  (hn:szOf P e=some n) (hz:zeroD P e=some z) (hx:cOpd x=some x') (hd:∀ d,o.dst=some d→d<N) (h:AWclr n z x' o.dst K st) (hg:GoesOn N st g a w K QP next Q):o.wp P a w next Q:=by
 obtain ⟨hzl,hpos,h⟩:=h
 split at h
 ·rename_i b off e' len hxa
  obtain ⟨rfl,hlen,h⟩:=h
  obtain ⟨r,cap,A,hr,hA,hcap,hne,hroom⟩:=(Jtfd hs hx hxa).1.hsl_inv
  have hA':=hne (by omega)
  subst hA'
  obtain ⟨i,zv,hi,hzv,hzs,hzr⟩:=Jt1lj (P:=P) (F:=g.F) (w:=w) hz
  have e1:c.args=#[x]:=by rw [←hargs]
  have e2:c.argTypes=#[t]:=by rw [←hts]
  obtain ⟨m1,m2⟩:=Jts4 (g:=g) (w:=w) (lv:=len) hpos hzl hzs hzr
  have hzc:(Builtin.zeroCells zv.cells len).toList=(madeCells zv.cells (len*e')).toList:=by
   unfold Builtin.zeroCells madeCells;rw [hzs,hzl]
  refine Jt4z hs hd (b:=b) (off:=off) (rows:=List.replicate len z) (vs:=(madeCells zv.cells (len*e')).toList) (u:=.tuple #[]) (v:=.tup []) hr (by rw [m1,List.length_replicate]) m2 (fun w'=>.tup [] [] rfl (fun j x u h=>by simp at h))
   (fun org e rows h=>by cases h) (fun e rows h=>by cases h) rfl ?_ h hg
  intro cc te hc hfit hone
  have hst:=run_storeCells_at P r off te (madeCells zv.cells (len*e')).toList 0 cc w hc (by simpa using hfit) hone
  simp only [Nat.add_zero] at hst
  have hrun:(Builtin.clear_ #[t] o.type #[.slice (some ⟨r,off,none⟩) len cap]).run P w=.ok (.tuple #[]) (w.setRow r ⟨spl cc.toList off (madeCells zv.cells (len*e')).toList⟩):=by
   obtain ⟨k,rfl⟩:∃ k,len=k+1:=⟨len-1,by omega⟩
   simp [Builtin.clear_,run_underlying hu,zeroValue,typeInfo,hi,hzv,hzc,hst,spl]
  unfold execOp
  simp only [ho,resolve,hcal,e1,e2,invoke,builtin,Sem.run_bind,Sem.run_pure,Result.andThen_ok,List.map_toArray,List.map_cons,List.map_nil,hA,hrun]
 ·exact h.elim
theorem Jt1h(hs:Sim N st g a w){o:Oper}{c:Call}{t e:TypeId}{n:Nat}{x y:Operand}{x' y':Opd}{K:ASt→Prop}{QP:AV→ASt→Prop}{next:Act→World→Prop}
  {Q:Exit→Act→World→Prop} (ho:o.op=.call c) (hcal:c.callee=.builtin .copy) (hargs:c.args.toList=[x,y]) (hts:c.argTypes.toList=[t,t]) (hu:P.underlying t=some (.slice e))
  (hn:szOf P e=some n) (hx:cOpd x=some x') (hy:cOpd y=some y') (hd:∀ d,o.dst=some d→d<N) (h:AWcpy n x' y' o.dst K st) (hg:GoesOn N st g a w K QP next Q):o.wp P a w next Q:=by
 obtain ⟨ys,hap,hyl,h⟩:=h
 obtain ⟨i,hi,rfl⟩:=Jt1e1 hn
 have e1:c.args=#[x,y]:=by rw [←hargs]
 have e2:c.argTypes=#[t,t]:=by rw [←hts]
 obtain ⟨A,cy,news,hyv,hnl,hnews,hAn,hnr⟩:=Jt7o hs hy hap hyl
 have hf:ys≠[]→(Builtin.firstCells i.size ys.length (.slice A ys.length cy)).run P w=.ok news.toArray w:=by
  intro hne
  cases A with
  | none=>exact absurd (List.eq_nil_of_length_eq_zero (hAn rfl)) hne
  | some ad=>
   rcases hnews with rfl | ⟨ad',h,hca⟩
   ·have hz:ys.length*i.size=0:=by simpa using hnl.symm
    simp [Builtin.firstCells,hz,loadCells,loadCellsFrom]
   ·injection h with h;subst h
    exact run_firstCells_some w i.size ys.length ad ys.length cy news hnl hca
 have h0:(Builtin.firstCells i.size 0 (.slice A ys.length cy)).run P w=.ok #[] w:=by
  cases A<;>simp [Builtin.firstCells,loadCells,loadCellsFrom]
 have hnone:∀ B len cap,a.eval x=.slice B len cap→Nat.min ys.length len=0→(execOp a.eval o).run P w=.ok (.value (.int .i64 0)) w:=by
  intro B len cap hB hm
  have hrun:(Builtin.copy_ #[t,t] o.type #[.slice B len cap,.slice A ys.length cy]).run P w=.ok (.int .i64 0) w:=by
   cases B<;>simp [Builtin.copy_,run_underlying hu,sizeOf,typeInfo,hi,Builtin.lenOf,hm,h0,storeCells,goInt]
  unfold execOp
  simp only [ho,resolve,hcal,e1,e2,invoke,builtin,Sem.run_bind,Sem.run_pure,Result.andThen_ok,List.map_toArray,List.map_cons,List.map_nil,hB,hyv,hrun]
 have hk:∀ B len cap,a.eval x=.slice B len cap→Nat.min ys.length len=0→K (Go.AE.put o.dst (.d (.int .i64 0)) st)→o.wp P a w next Q:=by
  intro B len cap hB hm hK
  have hp:=hs.put (P:=P) (dst:=o.dst) hd (x:=.d (.int .i64 0)) (v:=.int .i64 0) (.d _ _ (.int _ _)) (fun org e rows h=>by cases h) (fun e rows h=>by cases h)
  exact Jt1lb (hnone B len cap hB hm) (hg.1 _ _ _ _ hK hp.1 (Step.same hp.2 (put_H _ _ _)))
 split at h
 ·rename_i b off e' len hxa
  obtain ⟨rfl,hle,h1,h2⟩:=h
  obtain ⟨r,cap,B,hr,hB,hcap,hne,hroom⟩:=(Jtfd hs hx hxa).1.hsl_inv
  by_cases hys:ys=[]
  ·exact hk B len cap hB (by rw [hys];simp [Nat.min_def]) (h1 hys)
  ·have hpos:0<ys.length:=List.length_pos_iff.2 hys
   have hB':=hne (by omega)
   subst hB'
   refine Jt4z hs hd (b:=b) (off:=off) (rows:=ys) (vs:=news) (u:=.int .i64 ys.length) (v:=.d (.int .i64 ys.length)) hr hnl hnr (fun w'=>.d _ _ (.int _ _))
    (fun org e rows h=>by cases h) (fun e rows h=>by cases h) rfl ?_ (h2 hys) hg
   intro cc te hc hfit hone
   have hst:=run_storeCells_at P r off te news 0 cc w hc (by simpa using hfit) hone
   simp only [Nat.add_zero] at hst
   have hmin:Nat.min ys.length len=ys.length:=Nat.min_eq_left hle
   have hrun:(Builtin.copy_ #[t,t] o.type #[.slice (some ⟨r,off,none⟩) len cap,.slice A ys.length cy]).run P w=.ok (.int .i64 ys.length) (w.setRow r ⟨spl cc.toList off news⟩):=by
    simp [Builtin.copy_,run_underlying hu,sizeOf,typeInfo,hi,Builtin.lenOf,hmin,hf hys,hst,spl,goInt]
   unfold execOp
   simp only [ho,resolve,hcal,e1,e2,invoke,builtin,Sem.run_bind,Sem.run_pure,Result.andThen_ok,List.map_toArray,List.map_cons,List.map_nil,hB,hyv,hrun]
 ·rename_i hxa
  obtain ⟨B,cap,hB,_⟩:=(Jtfd hs hx hxa).1.d_inv.sl_inv
  exact hk B 0 cap hB (by simp [Nat.min_def]) h
 ·rename_i hxa
  exact hk none 0 0 (Jtfd hs hx hxa).1.nils_inv (by simp [Nat.min_def]) h
 ·rename_i hxa
  obtain ⟨B,hB⟩:=(Jtfd hs hx hxa).1.nile_inv
  exact hk B 0 0 hB (by simp [Nat.min_def]) h
 ·exact h.elim
theorem Jt4r(hs:Sim N st g a w){o:Oper}{t:TypeId}{n:Nat}{x v:Operand}{x' v':Opd}{K:ASt→Prop}{QP:AV→ASt→Prop}{next:Act→World→Prop}{Q:Exit→Act→World→Prop}
  (ho:o.op=.store t x v) (hn:szOf P t=some n) (hx:cOpd x=some x') (hv:cOpd v=some v') (hdst:o.dst=none) (h:Jt4q n x' v' K st) (hg:GoesOn N st g a w K QP next Q):o.wp P a w next Q:=by
 obtain ⟨inf,hinf,rfl⟩:=Jt1e1 hn
 obtain ⟨b,off,cells,hxa,hb,hcase⟩:=h
 obtain ⟨r,hr,hp⟩:=(Jtfd hs hx hxa).1.ptr_inv
 obtain ⟨c,te,hc,hsz,hrel,hcell⟩:=hs.block hb hr
 have hex:∀ vs:List Value,(a.eval v).cells.toList=vs→vs.length=inf.size→off+vs.length≤c.size→(∀ u∈vs,u.oneCell'=true)→
   (execOp a.eval o).run P w=.ok .skip (w.setRow r ⟨spl c.toList off vs⟩):=by
  intro vs h1 h2 h3 h4
  have hst:=run_storeCells_at P r off te vs 0 c w hc (by simpa using h3) h4
  simp only [Nat.add_zero] at hst
  have hsz2:(a.eval v).cells.size=inf.size:=by rw [←Array.length_toList,h1,h2]
  unfold execOp
  simp only [ho,Instr.storeAt,hp,Instr.sureAddr,storeVar,Sem.run_bind,Sem.run_pure,Result.andThen_ok,Jt17f hinf,hsz2,ne_eq,not_true_eq_false,if_false,h1,hst]
  rfl
 have fin:∀ w' st' g',(execOp a.eval o).run P w=.ok .skip w'→K st'→Sim N st' g' a w'→Step st g a w st' g' a w'→o.wp P a w next Q:=by
  intro w' st' g' h1 h2 h3 h4
  unfold Oper.wp
  rw [h1]
  show next (a.put o.dst undef) w'
  rw [hdst]
  exact hg.1 _ _ _ _ h2 h3 h4
 have common:∀ y,evr st.env v'=some y→y.cells.length=inf.size∧off+inf.size≤cells.length∧y.cells.all AV.leaf=true∧K ⟨unview st.env,st.H.set b (.mem (spl cells off y.cells))⟩→o.wp P a w next Q:=by
  rintro y hy ⟨h1,h2,h3,h4⟩
  have hre:=Jtfd hs hv hy
  have hcl:RelL g.F g.φ w y.cells (a.eval v).cells.toList:=hre.1.cells hre.2
  have hno:=Jtna hcl
  have hle:off+y.cells.length≤cells.length:=by omega
  have hm:=hs.unview.memUpd (b:=b) (r:=r) (cells:=cells) (cells':=spl cells off y.cells) (c:=c) (c':=⟨spl c.toList off (a.eval v).cells.toList⟩) (e:=te)
   (fun t org e rows=>Jtu2) cells.length hb hr hc (Jt1cv _ _ _ hle)
   (by
    have:=Jt1cv c.toList off (a.eval v).cells.toList (by rw [hcl.1];simp;omega)
    simpa using this)
   (by
    intro j z hz
    rw [Jt1cu _ _ _ hle] at hz
    have hcc:=Jt1cu c.toList off (a.eval v).cells.toList (by rw [hcl.1];simp;omega) j
    rw [hcl.1] at hcc
    split at hz
    ·rename_i hj
     rw [if_pos hj] at hcc
     have hlt:j-off<(a.eval v).cells.toList.length:=by rw [hcl.1];omega
     refine ⟨List.all_eq_true.1 h3 z (lmG hz),(a.eval v).cells.toList[j-off],?_,?_⟩
     ·simp only [List.getElem?_toArray];rw [hcc];exact lgE hlt
     ·have:=hcl.2 _ z _ hz (lgE hlt)
      rw [this.er];exact this
    ·rename_i hj
     rw [if_neg hj] at hcc
     obtain ⟨m1,u,m2,m3⟩:=hrel j z hz
     exact ⟨m1,u,by simp only [List.getElem?_toArray];rw [hcc,Array.getElem?_toList];exact m2,m3⟩)
   (by
    intro j e rows hj hz
    rw [Jt1cu _ _ _ hle] at hz
    have hcc:=Jt1cu c.toList off (a.eval v).cells.toList (by rw [hcl.1];simp;omega) j
    rw [hcl.1] at hcc
    split at hz
    ·exact absurd rfl (hno _ (lmG hz) e rows)
    ·rename_i hj2
     rw [if_neg hj2] at hcc
     exact ⟨hz,by simp only [List.getElem?_toArray];rw [hcc,Array.getElem?_toList]⟩)
   (by
    intro e rows hz
    rw [List.getElem?_eq_none (by rw [Jt1cv _ _ _ hle];exact Nat.le_refl _)] at hz
    cases hz)
  obtain ⟨m1,m2,m3⟩:=hm
  refine fin _ _ _ (hex _ rfl (by rw [hcl.1];exact h1) (by rw [hcl.1];omega) ?_) h4 m1 ⟨m3.mono fun r hr=>Jt5b.1 hr,fun q hq=>?_,fun _ _ h=>h,by simp,rfl⟩
  ·intro u hu
   obtain ⟨j,hj⟩:=List.getElem?_of_mem hu
   have hlt:j<y.cells.length:=by rw [←hcl.1];exact (lgS.1 hj).1
   exact (hcl.2 j y.cells[j] u (by simp [hlt]) hj).one (List.all_eq_true.1 h3 _ (List.getElem_mem hlt))
  ·rcases m2 q hq with h | ⟨e,rows,u,n,cap,h,_⟩
   ·exact .inl (Jt5b.1 h)
   ·rw [List.getElem?_eq_none (by rw [Jt1cv _ _ _ hle];exact Nat.le_refl _)] at h
    cases h
 split at hcase
 ·rename_i i e rows hev
  obtain ⟨hn1,hoff,hK⟩:=hcase
  have hvi:v=.tmp i:=by
   unfold cOpd at hv;split at hv
   ·injection hv with hv;injection hv with hv;rw [hv]
   ·split at hv<;>cases hv
   ·cases hv
   ·cases hv
  subst hvi
  have hi:get st.env i=some (.own e rows):=hev
  obtain ⟨h1,h2⟩:=hs.dropTmp hi
  have hrelv:=hs.env i _ hi
  have hown:=hs.own (.tmp i) e rows _ hi rfl
  have howner:∀ r n cap,a.tmps.getD i undef=.slice (some ⟨r,0,none⟩) n cap→Owner st g.φ a w (.tmp i) r:=fun r n cap h=>⟨e,rows,_,hi,rfl,n,cap,h⟩
  have hone:(a.eval (.tmp i)).cells.toList=[a.tmps.getD i undef]:=by
   have:=Jtuj (hrelv.one rfl)
   show (a.tmps.getD i undef).cells.toList=_
   rw [this]
  have hcs:off<c.size:=by omega
  have hset:(⟨spl c.toList off [a.tmps.getD i undef]⟩:Array Value)=c.setIfInBounds off (a.tmps.getD i undef):=by
   apply Array.ext'
   apply List.ext_getElem?
   intro j
   rw [Jt1cu _ _ _ (by simp;omega),Array.toList_setIfInBounds,List.getElem?_set]
   simp only [List.length_singleton]
   by_cases hj:off=j
   ·subst hj;rw [if_pos (by omega),if_pos rfl,if_pos (by simpa using hcs)];simp
   ·rw [if_neg (by omega),if_neg hj]
  have hm:=h1.memUpd (b:=b) (r:=r) (cells:=cells) (cells':=cells.set off (.own e rows)) (c:=c) (c':=c.setIfInBounds off (a.tmps.getD i undef)) (e:=te)
   (fun t org e' rows' h=>by
    simp only [get] at h
    split at h
    ·injection h with h;cases h
    ·exact absurd h Jtu2) off hb hr hc (by simp) (by simp)
   (by
    intro j z hz
    rw [List.getElem?_set] at hz
    by_cases hj:off=j
    ·subst hj
     rw [if_pos rfl,if_pos hoff] at hz
     injection hz with hz;subst hz
     exact ⟨rfl,_,by simp [hcs],hrelv⟩
    ·rw [if_neg hj] at hz
     obtain ⟨m1,u,m2,m3⟩:=hrel j z hz
     exact ⟨m1,u,by rw [Array.getElem?_setIfInBounds_ne hj];exact m2,m3⟩)
   (by
    intro j e' rows' hj hz
    rw [List.getElem?_set_ne (Ne.symm hj)] at hz
    exact ⟨hz,by rw [Array.getElem?_setIfInBounds_ne (Ne.symm hj)]⟩)
   (by
    intro e' rows' hz
    rw [List.getElem?_set,if_pos rfl,if_pos hoff] at hz
    injection hz with hz;injection hz with e1 e2;subst e1;subst e2
    refine ⟨_,by simp [hcs],hown,fun q n cap h=>⟨fun b' hb'=>hs.apart _ q b' (howner q n cap h) hb',fun p ho'=>?_⟩⟩
    obtain ⟨k1,k2⟩:=h2 p q ho'
    exact k1 (hs.excl _ _ q k2 (howner q n cap h)))
  obtain ⟨m1,m2,m3⟩:=hm
  have hsub:∀ q,Mine ⟨(i,.d (.sl rows))::unview st.env,st.H⟩ g a w q→Mine st g a w q:=by
   rintro q (⟨b',hb'⟩ | ⟨p,hp'⟩)
   ·exact .inl ⟨b',hb'⟩
   ·exact .inr ⟨p,(h2 p q hp').2⟩
  refine fin _ _ _ ?_ hK m1 ⟨m3.mono hsub,fun q hq=>?_,fun _ _ h=>h,by simp,rfl⟩
  ·rw [←hset]
   refine hex _ hone (by simp;omega) (by simp;omega) ?_
   intro u hu
   rw [List.mem_singleton] at hu;subst hu
   exact hrelv.one rfl
  ·rcases m2 q hq with h | ⟨e',rows',u,n,cap,_,h5,h6⟩
   ·exact .inl (hsub q h)
   ·have:u=a.tmps.getD i undef:=by
     rw [Array.getElem?_setIfInBounds_self_of_lt hcs] at h5;injection h5 with h5;exact h5.symm
    subst this
    exact .inl (.inr ⟨_,howner q n cap h6⟩)
 ·rename_i y hne hev
  exact common y.erase (by simp [evr,hev]) hcase
 ·exact hcase.elim
theorem Jt4t(hs:Sim N st g a w){o:Oper}{t:TypeId}{n:Nat}{x v:Operand}{x' v':Opd}{ls:List (Nat × Nat)} {K:ASt→Prop} {QP:AV→ASt→Prop} {next:Act→World→Prop} {Q:Exit→Act→World→Prop}
  (ho:o.op=.store t x v) (hn:szOf P t=some n) (hx:cOpd x=some x') (hv:cOpd v=some v') (hdst:o.dst=none) (h:Jt4s n x' v' ls K st) (hg:GoesOn N st g a w K QP next Q):o.wp P a w next Q:=by
 obtain ⟨inf,hinf,rfl⟩:=Jt1e1 hn
 obtain ⟨b,off,cells,y,hxa,hb,hy,h1,h2,h3,_,hnown,_,h4⟩:=h
 obtain ⟨r,hr,hp⟩:=(Jtfd hs hx hxa).1.ptr_inv
 obtain ⟨c,te,hc,hsz,hrel,hcell⟩:=hs.block hb hr
 have hre:=Jtfd hs hv hy
 have hcl:RelL g.F g.φ w y.cells (a.eval v).cells.toList:=hre.1.cells hre.2
 have hno:=Jtna hcl
 have hle:off+y.cells.length≤cells.length:=by omega
 have hold:∀ j e rows,off≤j→j<off+inf.size→cells[j]?≠some (.own e rows):=by
  intro j e rows k1 k2 k3
  rw [List.all_eq_true] at hnown
  have hm:AV.own e rows∈(cells.drop off).take inf.size:=by
   refine lmG (i:=j-off) ?_
   rw [List.getElem?_take,if_pos (by omega),List.getElem?_drop,show off+(j-off)=j by omega];exact k3
  have:=hnown _ hm
  simp [AV.notOwn] at this
 have hcc:∀ j,(spl c.toList off (a.eval v).cells.toList)[j]?=if off≤j∧j<off+y.cells.length then (a.eval v).cells.toList[j-off]? else c.toList[j]?:=by
  intro j
  have:=Jt1cu c.toList off (a.eval v).cells.toList (by rw [hcl.1];simp;omega) j
  rw [hcl.1] at this;exact this
 have hm:=hs.memUpd' (b:=b) (r:=r) (cells:=cells) (cells':=spl cells off y.cells) (c:=c) (c':=⟨spl c.toList off (a.eval v).cells.toList⟩) (e:=te) cells.length
  (by
   intro t org e rows ht
   obtain ⟨v1,v2⟩:=hs.view t org e rows ht
   cases org with
   | tmp i=>exact ⟨v1,v2⟩
   | cell b' j=>
    have hblt:b<st.H.length:=(lgS.1 hb).1
    by_cases hbb:b'=b
    ·subst hbb
     simp only [AP,hb] at v1
     have hj:¬ (off≤j∧j<off+y.cells.length):=fun hj=>hold j e rows hj.1 (by omega) v1
     refine ⟨?_,?_⟩
     ·simp only [AP,List.getElem?_set_self hblt]
      rw [Jt1cu _ _ _ hle,if_neg hj];exact v1
     ·simp only [RP,hr,Option.bind_some] at v2 ⊢
      rw [hcell] at v2
      rw [cell_of_row _ r j _ te (0,0) (setRow_heap w r c _ te _ hc)]
      simp only [List.getElem?_toArray]
      rw [hcc,if_neg hj,Array.getElem?_toList];exact v2
    ·refine ⟨?_,?_⟩
     ·simp only [AP,List.getElem?_set_ne (Ne.symm hbb)] at v1 ⊢
      exact v1
     ·simp only [RP] at v2 ⊢
      cases hq:g.φ b' with
      | none=>rw [hq] at v2;exact v2
      | some q=>
       rw [hq] at v2
       simp only [Option.bind_some] at v2 ⊢
       rw [←v2]
       exact World.cell?_of_block (a:=⟨q,j,none⟩) (setRow_other w r q _ (fun he=>hbb (hs.inj _ _ q hq (by rw [he];exact hr)))))
  hb hr hc (Jt1cv _ _ _ hle)
  (by
   have:=Jt1cv c.toList off (a.eval v).cells.toList (by rw [hcl.1];simp;omega)
   simpa using this)
  (by
   intro j z hz
   rw [Jt1cu _ _ _ hle] at hz
   have hcc:=hcc j
   split at hz
   ·rename_i hj
    rw [if_pos hj] at hcc
    have hlt:j-off<(a.eval v).cells.toList.length:=by rw [hcl.1];omega
    refine ⟨List.all_eq_true.1 h3 z (lmG hz),(a.eval v).cells.toList[j-off],?_,?_⟩
    ·simp only [List.getElem?_toArray];rw [hcc];exact lgE hlt
    ·have:=hcl.2 _ z _ hz (lgE hlt)
     rw [this.er];exact this
   ·rename_i hj
    rw [if_neg hj] at hcc
    obtain ⟨m1,u,m2,m3⟩:=hrel j z hz
    exact ⟨m1,u,by simp only [List.getElem?_toArray];rw [hcc,Array.getElem?_toList];exact m2,m3⟩)
  (by
   intro j e rows hj hz
   rw [Jt1cu _ _ _ hle] at hz
   have hcc:=hcc j
   split at hz
   ·exact absurd rfl (hno _ (lmG hz) e rows)
   ·rename_i hj2
    rw [if_neg hj2] at hcc
    exact ⟨hz,by simp only [List.getElem?_toArray];rw [hcc,Array.getElem?_toList]⟩)
  (by
   intro e rows hz
   rw [List.getElem?_eq_none (by rw [Jt1cv _ _ _ hle];exact Nat.le_refl _)] at hz
   cases hz)
 obtain ⟨m1,m2,m3⟩:=hm
 have hone:∀ u∈(a.eval v).cells.toList,u.oneCell'=true:=by
  intro u hu
  obtain ⟨j,hj⟩:=List.getElem?_of_mem hu
  have hlt:j<y.cells.length:=by rw [←hcl.1];exact (lgS.1 hj).1
  exact (hcl.2 j y.cells[j] u (by simp [hlt]) hj).one (List.all_eq_true.1 h3 _ (List.getElem_mem hlt))
 have hst:=run_storeCells_at P r off te (a.eval v).cells.toList 0 c w hc (by have:=hcl.1;simp only [Nat.add_zero];omega) hone
 simp only [Nat.add_zero] at hst
 have hsz2:(a.eval v).cells.size=inf.size:=by rw [←Array.length_toList,hcl.1,h1]
 have hex:(execOp a.eval o).run P w=.ok .skip (w.setRow r ⟨spl c.toList off (a.eval v).cells.toList⟩):=by
  unfold execOp
  simp only [ho,Instr.storeAt,hp,Instr.sureAddr,storeVar,Sem.run_bind,Sem.run_pure,Result.andThen_ok,Jt17f hinf,hsz2,ne_eq,not_true_eq_false,if_false,hst]
  rfl
 unfold Oper.wp
 rw [hex]
 show next (a.put o.dst undef) _
 rw [hdst]
 refine hg.1 _ _ _ _ h4 m1 ⟨m3,fun q hq=>?_,fun _ _ h=>h,by simp,rfl⟩
 rcases m2 q hq with h | ⟨e,rows,u,n,cap,h,_⟩
 ·exact .inl h
 ·rw [List.getElem?_eq_none (by rw [Jt1cv _ _ _ hle];exact Nat.le_refl _)] at h
  cases h
theorem Jt4n(hs:Sim N st g a w){o:Oper}{x:Operand}{x':Opd}{K:ASt→Prop}{QP:AV→ASt→Prop}{next:Act→World→Prop}{Q:Exit→Act→World→Prop}(ho:o.op=.panic x)(hx:cOpd x=some x')
  {t:Nat} {y:AV} (hev:evr st.env x'=some (.iface t y)) (hQ:QP (.iface t y) st) (hg:GoesOn N st g a w K QP next Q):o.wp P a w next Q:=by
 have hr:=(Jtfd hs hx hev).1
 have hv:∃ u,a.eval x=.iface t u:=by
  generalize a.eval x=z at hr
  cases hr with
  | iface _ _ u h=>exact ⟨u,rfl⟩
 obtain ⟨u,hu⟩:=hv
 unfold Oper.wp
 have hex:(execOp a.eval o).run P w=.halt (.panic (.iface t u)) w:=by
  unfold execOp
  simp only [ho,hu,Instr.panic]
  rfl
 rw [hex]
 refine hg.2 (.iface t y) (.iface t u) _ _ _ _ hQ hs ?_ (Step.same (fun r h=>h) rfl)
 rw [hu] at hr;exact hr
end
section
variable {P:Program} {N:Nat} {st:ASt} {g:Gh} {a:Act} {w:World}
def Jt50(dst:Option Tmp)(a:Act)(next:Act→World→Prop)(Q:Exit→Act→World→Prop):Ending→World→Prop
 | .returned v,w''=>next (a.put dst v) w''
 | .panicked chain,w''=>Q (.panic chain) a w''
 | .outgrown,_=>LetsOut Q
theorem Jt4o(hs:Sim N st g a w){f:Nat}{as:List AV}{vs:Array Value}{dst:Option Nat}{K:ASt→Prop}{QP:AV→ASt→Prop}{next:Act→World→Prop}{Q:Exit→Act→World→Prop}
  (hr:RelL g.F g.φ w as vs.toList) (hd:∀ d,dst=some d→d<N) (h:AWpure P f as dst K QP st) (hg:GoesOn N st g a w K QP next Q):Calls P f vs w (Jt50 dst a next Q):=by
 obtain ⟨cargs,hc,hcall⟩:=h
 have hidx:(idx []:Nat→Option Nat)=none1:=by funext b;rfl
 obtain ⟨hsim,hmine0⟩:=hs.call (bs:=[]) List.nodup_nil (Hp:=[]) (Hc:=[]) hr (by rw [hidx];exact hc) rfl rfl
 have hno:∀ r,¬ Mine ⟨enum 0 cargs,[]⟩ (g.of []) ⟨vs,[]⟩ w r:=by
  intro r h
  rcases hmine0 r h with ⟨b,hb,_⟩ | ⟨b,hb,_⟩<;>simp at hb
 have hvs:vs.size=cargs.length:=by
  have h1:=hr.1
  have h2:=(Jt15p hc).1
  simp at h1;omega
 refine (hcall (g.of []) vs w hvs hsim).mono ?_
 rintro e w' ⟨o,H',g',v,⟨hcl,hq⟩,rfl,hsim',htr,_,_,hmine⟩
 have hgr:Grew (Mine st g a w) g w g'.F w':=
  ⟨htr.os,htr.tape,htr.output,htr.size,fun r hr _=>htr.other r hr (hno r),htr.stab⟩
 have hs1:=hs.grew hgr
 have hTr:Tr (Mine st g a w) g w ⟨g.φ,g'.F⟩ w':=⟨htr.os,htr.tape,htr.output,htr.size,fun r hr _=>htr.other r hr (hno r),htr.stab⟩
 have hM:∀ r,Mine st ⟨g.φ,g'.F⟩ a w' r→Mine st g a w r:=fun r hr=>(Jt5a hs hgr).1 hr
 have hrel:Rel g'.F g.φ w' o.val.erase v:=by
  have h0:=hsim'.env 0 o.val (by simp [get])
  have h1:Rel g'.F g'.φ w' o.val.erase v:=by simpa using h0
  exact h1.ren (ρ:=none1) (fun b b' r h _=>by cases h) _ (ren_erase hcl)
 cases o with
 | ret x=>
  simp only [AOut.val] at hcl hrel hq
  show next (a.put dst v) w'
  by_cases hown:∃ e rows,x=.own e rows
  ·obtain ⟨e,rows,rfl⟩:=hown
   cases dst with
   | none=>exact hg.1 _ _ _ _ hq hs1 ⟨hTr,fun r hr=>.inl (hM r hr),fun _ _ h=>h,Nat.le_refl _,rfl⟩
   | some d=>
    have ho:OwnAt g'.F w' e rows v:=hsim'.own (.tmp 0) e rows v (by simp [AP,get,AOut.val]) (by simp [RP])
    have hp:=hs1.putO (d:=d) (e:=e) (rows:=rows) (v:=v) (hd d rfl) hrel ho (by
     intro r n cap hv
     have hown:Owner ⟨[(0,(AOut.ret (.own e rows)).val)],H'⟩ g'.φ ⟨#[v],[]⟩ w' (.tmp 0) r:=⟨e,rows,v,by simp [AP,get,AOut.val],by simp [RP],n,cap,hv⟩
     have hge:w.heap.size≤r:=(hmine r (.inr ⟨_,hown⟩)).resolve_left (hno r)
     refine ⟨fun b hb=>?_,fun p _ hp=>?_⟩
     ·have:=(hs.lt b r hb).1;omega
     ·have:=hs.owner_lt ((Jt5e hs hgr).1 hp);omega)
    refine hg.1 _ _ _ _ hq hp.1 ⟨hTr,fun r hr=>?_,fun _ _ h=>h,by rw [put_H];exact Nat.le_refl _,Jty1 _ _ _⟩
    rcases hp.2 r hr with h | ⟨n,cap,hv⟩
    ·exact .inl (hM r h)
    ·have hown:Owner ⟨[(0,(AOut.ret (.own e rows)).val)],H'⟩ g'.φ ⟨#[v],[]⟩ w' (.tmp 0) r:=⟨e,rows,v,by simp [AP,get,AOut.val],by simp [RP],n,cap,hv⟩
     exact .inr ((hmine r (.inr ⟨_,hown⟩)).resolve_left (hno r))
  ·have hno':NotOwn x:=fun e rows h=>hown ⟨e,rows,h⟩
   have hview:ViewOk st ⟨g.φ,g'.F⟩ a w' x v:=by
    intro org e rows h
    subst h
    simp [AV.closed,AV.ren] at hcl
   have hp:=hs1.put (P:=P) (dst:=dst) hd (x:=x) hrel hview hno'
   exact hg.1 _ _ _ _ hq hp.1 ⟨hTr,fun r hr=>.inl (hM r (hp.2 r hr)),fun _ _ h=>h,by rw [put_H];exact Nat.le_refl _,Jty1 _ _ _⟩
 | pan x=>
  simp only [AOut.val] at hcl hrel hq
  exact hg.2 x v st ⟨g.φ,g'.F⟩ a w' hq hs1 hrel ⟨hTr,fun r hr=>.inl (hM r hr),fun _ _ h=>h,Nat.le_refl _,rfl⟩
theorem Jt1l7{o:Oper}{f:Nat}{args:Array Value}{next:Act→World→Prop}{Q:Exit→Act→World→Prop}(h:(execOp a.eval o).run P w=.ok (.enter f args) w) (hn:Calls P f args w (Jt50 o.dst a next Q)) :
  o.wp P a w next Q:=by
 unfold Oper.wp
 rw [h]
 exact Calls.mono hn fun e w'' h=>by cases e<;>exact h
theorem Jt178{f:Nat}{args:Array Value}(h:okFn P f=true):(callFunc f args).run P w=.ok (.enter f args) w:=by
 unfold okFn at h
 split at h
 ·rename_i fn hf
  simp only [Bool.and_eq_true,bne_iff_ne,ne_eq] at h
  have hb:fn.body.isNone=false:=by cases hfb:fn.body<;>simp [hfb] at h ⊢
  unfold callFunc
  simp only [Sem.run_bind,run_program,Result.andThen_ok,hf]
  have hnm : (fn.name == "runtime.NumGoroutine") = false := by simpa using h.2
  simp [hnm,hb]
 ·cases h
end
theorem Jt1g1:∀ (bs:List Nat) (ks H:List Blk),(wback H bs ks).length=H.length:=by
 intro bs
 induction bs with
 | nil=>intro ks H;cases ks<;>rfl
 | cons b bs ih=>
  intro ks H
  cases ks with
  | nil=>rfl
  | cons k ks=>simp only [wback];rw [ih];simp
theorem Jt1g2:∀ (bs:List Nat) (ks H:List Blk) (b:Nat),b∉bs→(wback H bs ks)[b]?=H[b]?:=by
 intro bs
 induction bs with
 | nil=>intro ks H b _;cases ks<;>rfl
 | cons c bs ih=>
  intro ks H b hb
  simp only [List.mem_cons,not_or] at hb
  cases ks with
  | nil=>rfl
  | cons k ks=>simp only [wback];rw [ih ks _ b hb.2,List.getElem?_set_ne (Ne.symm hb.1)]
theorem Jt1g0:∀ (bs:List Nat) (ks H:List Blk) (i b:Nat) (k:Blk),bs.Nodup→bs[i]?=some b→ks[i]?=some k→b<H.length→(wback H bs ks)[b]?=some k:=by
 intro bs
 induction bs with
 | nil=>intro ks H i b k _ h;simp at h
 | cons c bs ih=>
  intro ks H i b k hnd hb hk hlt
  rw [List.nodup_cons] at hnd
  cases ks with
  | nil=>simp at hk
  | cons k0 ks=>
   simp only [wback]
   cases i with
   | zero=>
    simp at hb hk;subst hb;subst hk
    rw [Jt1g2 bs ks _ _ hnd.1,List.getElem?_set_self hlt]
   | succ i=>
    simp at hb hk
    exact ih ks _ i b k hnd.2 hb hk (by simpa using hlt)
theorem Jtl3:∀ {bs:List Nat} {i b:Nat},bs.Nodup→bs[i]?=some b→idx bs b=some i:=by
 intro bs
 induction bs with
 | nil=>intro i b _ h;simp at h
 | cons c bs ih=>
  intro i b hnd h
  rw [List.nodup_cons] at hnd
  simp only [idx]
  cases i with
  | zero=>simp at h;rw [if_pos h]
  | succ i=>
   simp at h
   rw [if_neg (fun hc=>hnd.1 (by rw [hc];exact lmG h)),ih hnd.2 h]
   rfl
section
variable {P:Program} {N:Nat} {st:ASt} {g:Gh} {a:Act} {w:World}
def Gh.back(g g':Gh)(bs:List Nat)(n e:Nat):Gh:=
 ⟨fun b=>if b<n then (match idx bs b with | some i=>g'.φ i | none=>g.φ b) else if b-n<e then g'.φ (bs.length+(b-n)) else none,g'.F⟩
theorem Sim.back(hs:Sim N st g a w){bs:List Nat}(hnd:bs.Nodup)(hbl:∀ b∈bs,b<st.H.length){Mc:Nat→Prop}(hMc:∀ r,Mc r→(∃ b∈bs,g.φ b=some r)∨∃ b∈bs,∃ j,Owner st g.φ a w (.cell b j) r)
  {x:AV} {H':List Blk} {g':Gh} {v:Value} {w':World} (hsim:Sim 1 ⟨[(0,x)],H'⟩ g' ⟨#[v],[]⟩ w') (htr:Tr Mc (g.of bs) w g' w')
  (hφ:∀ i b r,bs[i]?=some b→g.φ b=some r→g'.φ i=some r) (hmine:∀ r,Mine ⟨[(0,x)],H'⟩ g' ⟨#[v],[]⟩ w' r→Mc r∨w.heap.size≤r)
  {e:Nat} {Hb:List Blk} (hHb:renB (Go.AE.back bs st.H.length e) (H'.take (bs.length+e))=some Hb) (hle:bs.length+e≤H'.length) :
  Sim N ⟨Go.AE.unview st.env,wback st.H bs (Hb.take bs.length)++Hb.drop bs.length⟩ (g.back g' bs st.H.length e) a w'∧
  Step st g a w ⟨Go.AE.unview st.env,wback st.H bs (Hb.take bs.length)++Hb.drop bs.length⟩ (g.back g' bs st.H.length e) a w'∧
  (∀ b b' r,Go.AE.back bs st.H.length e b=some b'→g'.φ b=some r→(g.back g' bs st.H.length e).φ b'=some r)∧
  (∀ r n cap,Mine ⟨[(0,x)],H'⟩ g' ⟨#[v],[]⟩ w' r→(∃ rows e,x=.own e rows)→v=.slice (some ⟨r,0,none⟩) n cap→
   (∀ b,(g.back g' bs st.H.length e).φ b≠some r)∧∀ p,¬ Owner ⟨Go.AE.unview st.env,wback st.H bs (Hb.take bs.length)++Hb.drop bs.length⟩ (g.back g' bs st.H.length e).φ a w' p r):=by
 obtain ⟨lb,hbget⟩:=Jt15g hHb
 have hHbl:Hb.length=bs.length+e:=by rw [←lb,List.length_take];omega
 have hwl:=Jt1g1 bs (Hb.take bs.length) st.H
 generalize hH2:wback st.H bs (Hb.take bs.length)++Hb.drop bs.length=H2 at *
 generalize hg2:g.back g' bs st.H.length e=g2 at *
 have hF2:g2.F=g'.F:=by rw [←hg2];rfl
 have hH2l:H2.length=st.H.length+e:=by rw [←hH2,List.length_append,hwl,List.length_drop];omega
 have hout:∀ b,b<st.H.length→b∉bs→H2[b]?=st.H[b]?∧g2.φ b=g.φ b:=by
  intro b hb hnb
  refine ⟨by rw [←hH2,lgA (by omega),Jt1g2 _ _ _ _ hnb],?_⟩
  rw [←hg2]
  simp only [Gh.back,if_pos hb]
  cases hi:idx bs b with
  | none=>rfl
  | some i=>exact absurd (lmG (Jtl5 hi)) hnb
 have hin:∀ i b,bs[i]?=some b→H2[b]?=Hb[i]?∧g2.φ b=g'.φ i:=by
  intro i b hi
  have hil:i<bs.length:=(lgS.1 hi).1
  have hbH:=hbl b (lmG hi)
  have hk:Hb[i]?=some Hb[i]:=by simp [show i<Hb.length by omega]
  refine ⟨?_,?_⟩
  ·rw [←hH2,lgA (by omega),hk]
   exact Jt1g0 bs _ st.H i b _ hnd hi (by rw [List.getElem?_take,if_pos hil];exact hk) hbH
  ·rw [←hg2];simp only [Gh.back,if_pos hbH,Jtl3 hnd hi]
 have hnew:∀ k,k<e→H2[st.H.length+k]?=Hb[bs.length+k]?∧g2.φ (st.H.length+k)=g'.φ (bs.length+k):=by
  intro k hk
  refine ⟨?_,?_⟩
  ·rw [←hH2,List.getElem?_append_right (by omega),hwl,List.getElem?_drop]
   congr 1;omega
  ·rw [←hg2];simp only [Gh.back]
   rw [if_neg (by omega),if_pos (by omega)]
   congr 1;omega
 have hbeyond:∀ b,st.H.length+e≤b→g2.φ b=none:=by
  intro b hb
  rw [←hg2];simp only [Gh.back]
  rw [if_neg (by omega),if_neg (by omega)]
 have hcases:∀ b,(b<st.H.length∧b∉bs∧H2[b]?=st.H[b]?∧g2.φ b=g.φ b)∨(∃ i,Go.AE.back bs st.H.length e i=some b∧i<bs.length+e∧H2[b]?=Hb[i]?∧g2.φ b=g'.φ i)∨(H2[b]?=none∧g2.φ b=none):=by
  intro b
  by_cases h1:b<st.H.length
  ·by_cases h2:b∈bs
   ·obtain ⟨i,hi⟩:=List.getElem?_of_mem h2
    have hil:i<bs.length:=(lgS.1 hi).1
    obtain ⟨k1,k2⟩:=hin i b hi
    exact .inr (.inl ⟨i,by simp only [Go.AE.back];rw [if_pos hil];exact hi,by omega,k1,k2⟩)
   ·obtain ⟨k1,k2⟩:=hout b h1 h2
    exact .inl ⟨h1,h2,k1,k2⟩
  ·by_cases h2:b<st.H.length+e
   ·obtain ⟨k1,k2⟩:=hnew (b-st.H.length) (by omega)
    rw [show st.H.length+(b-st.H.length)=b by omega] at k1 k2
    refine .inr (.inl ⟨bs.length+(b-st.H.length),?_,by omega,k1,k2⟩)
    simp only [Go.AE.back]
    rw [if_neg (by omega),if_pos (by omega)]
    congr 1;omega
   ·exact .inr (.inr ⟨List.getElem?_eq_none (by omega),hbeyond b (by omega)⟩)
 have hbinj:∀ i i' b,Go.AE.back bs st.H.length e i=some b→Go.AE.back bs st.H.length e i'=some b→i=i':=by
  intro i i' b h h'
  simp only [Go.AE.back] at h h'
  split at h<;>split at h'
  ·obtain ⟨m1,m2⟩:=lgS.1 h
   obtain ⟨m1',m2'⟩:=lgS.1 h'
   exact (List.getElem_inj hnd).1 (m2.trans m2'.symm)
  ·split at h'
   ·injection h' with h';have:=hbl b (lmG h);omega
   ·cases h'
  ·split at h
   ·injection h with h;have:=hbl b (lmG h');omega
   ·cases h
  ·split at h<;>split at h'
   ·injection h with h;injection h' with h';omega
   ·cases h'
   ·cases h
   ·cases h
 have hρ:∀ b b' r,Go.AE.back bs st.H.length e b=some b'→g'.φ b=some r→g2.φ b'=some r:=by
  intro b b' r h hr
  simp only [Go.AE.back] at h
  split at h
  ·rw [(hin b b' h).2];exact hr
  ·split at h
   ·rename_i hb1 hb2
    injection h with h;subst h
    rw [(hnew (b-bs.length) (by omega)).2,show bs.length+(b-bs.length)=b by omega]
    exact hr
   ·cases h
 have hφ2:∀ b r,g.φ b=some r→g2.φ b=some r:=by
  intro b r h
  have hb:=(hs.lt b r h).2.2
  by_cases hm:b∈bs
  ·obtain ⟨i,hi⟩:=List.getElem?_of_mem hm
   rw [(hin i b hi).2];exact hφ i b r hi h
  ·rw [(hout b hb hm).2];exact h
 have hkeepφ:∀ b r,g.φ b=some r→b∉bs→¬ Mc r:=by
  intro b r h hnb hm
  rcases hMc r hm with ⟨b',hb',h'⟩ | ⟨b',hb',j,h'⟩
  ·exact hnb (by rw [hs.inj b b' r h h'];exact hb')
  ·exact hs.apart _ r b h' h
 have hkeepO:∀ p r,Owner st g.φ a w p r→(∀ b j,p=.cell b j→b∉bs)→¬ Mc r:=by
  intro p r h hp hm
  rcases hMc r hm with ⟨b',hb',h'⟩ | ⟨b',hb',j,h'⟩
  ·exact hs.apart p r b' h h'
  ·exact hp b' j (hs.excl _ _ r h h') hb'
 have hst:Stab g.F w g'.F w':=⟨htr.stab.le,htr.stab.cell,htr.stab.size⟩
 have hrelO:∀ {y:AV} {u:Value},Rel g.F g.φ w y u→Rel g2.F g2.φ w' y u:=fun h=>by rw [hF2];exact h.stab hst hφ2
 have hrelN:∀ {y z:AV} {u:Value},Rel g'.F g'.φ w' y u→y.ren (Go.AE.back bs st.H.length e)=some z→Rel g2.F g2.φ w' z u:=fun h hz=>by rw [hF2];exact h.ren hρ _ hz
 have hcell:∀ (i b:Nat) (cells:List AV),Go.AE.back bs st.H.length e i=some b→i<bs.length+e→Hb[i]?=some (.mem cells)→∃ cells',H'[i]?=some (.mem cells')∧renL (Go.AE.back bs st.H.length e) cells'=some cells:=by
  intro i b cells _ hi h
  obtain ⟨k,hk,hren⟩:=Jt15h hHb i _ h
  rw [List.getElem?_take,if_pos hi] at hk
  cases k with
  | mem cells'=>
   simp only [Blk.ren] at hren
   split at hren
   ·rename_i cs hcs;injection hren with hren;injection hren with hren;subst hren;exact ⟨cells',hk,hcs⟩
   ·cases hren
  | iter s p=>simp [Blk.ren] at hren
  | glob s p=>simp [Blk.ren] at hren
  | dead=>simp [Blk.ren] at hren
 have hAP:∀ p e' rows,AP ⟨Go.AE.unview st.env,H2⟩ p=some (.own e' rows)→
   (AP st p=some (.own e' rows)∧(∀ b j,p=.cell b j→b∉bs∧b<st.H.length∧g2.φ b=g.φ b))∨
   (∃ i b j,p=.cell b j∧Go.AE.back bs st.H.length e i=some b∧AP ⟨[(0,x)],H'⟩ (.cell i j)=some (.own e' rows)∧RP g2.φ a w' p=RP g'.φ ⟨#[v],[]⟩ w' (.cell i j)):=by
  intro p e' rows h
  cases p with
  | tmp t=>exact .inl ⟨Jt2.1 (by simpa [AP] using h),fun b j h=>by cases h⟩
  | cell b j=>
   simp only [AP] at h
   rcases hcases b with ⟨h1,h2,h3,h4⟩ | ⟨i,h1,h2,h3,h4⟩ | ⟨h1,_⟩
   ·rw [h3] at h
    exact .inl ⟨by simpa [AP] using h,fun b' j' he=>by injection he with he _;subst he;exact ⟨h2,h1,h4⟩⟩
   ·rw [h3] at h
    split at h
    ·rename_i cells hk
     obtain ⟨cells',hk',hren⟩:=hcell i b cells h1 h2 hk
     obtain ⟨z,hz,hzr⟩:=Jt15q hren j _ h
     have:=ren_own hzr
     subst this
     exact .inr ⟨i,b,j,rfl,h1,by simp only [AP,hk',hz],by simp only [RP,h4]⟩
    ·cases h
   ·rw [h1] at h;cases h
 have hRPold:∀ p e' rows,AP st p=some (.own e' rows)→(∀ b j,p=.cell b j→b∉bs∧b<st.H.length∧g2.φ b=g.φ b)→RP g2.φ a w' p=RP g.φ a w p:=by
  intro p e' rows h hp
  cases p with
  | tmp t=>rfl
  | cell b j=>
   obtain ⟨h1,h2,h3⟩:=hp b j rfl
   simp only [RP,h3]
   cases hr:g.φ b with
   | none=>rfl
   | some r=>
    simp only [Option.bind_some]
    exact World.cell?_of_block (a:=⟨r,j,none⟩) (htr.other r (hs.lt b r hr).1 (hkeepφ b r hr h1)).1
 have hO:∀ p r,Owner ⟨Go.AE.unview st.env,H2⟩ g2.φ a w' p r→
   (Owner st g.φ a w p r∧(∀ b j,p=.cell b j→b∉bs))∨(∃ i b j,p=.cell b j∧Go.AE.back bs st.H.length e i=some b∧Owner ⟨[(0,x)],H'⟩ g'.φ ⟨#[v],[]⟩ w' (.cell i j) r):=by
  rintro p r ⟨e',rows,u,h1,h2,h3⟩
  rcases hAP p e' rows h1 with ⟨k1,k2⟩ | ⟨i,b,j,k1,k2,k3,k4⟩
  ·rw [hRPold p e' rows k1 k2] at h2
   exact .inl ⟨⟨e',rows,u,k1,h2,h3⟩,fun b j h=>(k2 b j h).1⟩
  ·rw [k4] at h2
   exact .inr ⟨i,b,j,k1,k2,e',rows,u,k3,h2,h3⟩
 have hold_new:∀ p r,Owner st g.φ a w p r→(∀ b j,p=.cell b j→b∉bs)→¬ Mine ⟨[(0,x)],H'⟩ g' ⟨#[v],[]⟩ w' r:=by
  intro p r h hp hm
  rcases hmine r hm with h1 | h1
  ·exact hkeepO p r h hp h1
  ·have:=hs.owner_lt h;omega
 have hφ_new:∀ b r,g.φ b=some r→b∉bs→¬ Mine ⟨[(0,x)],H'⟩ g' ⟨#[v],[]⟩ w' r:=by
  intro b r h hb hm
  rcases hmine r hm with h1 | h1
  ·exact hkeepφ b r h hb h1
  ·have:=(hs.lt b r h).1;omega
 have hφcases:∀ b r,g2.φ b=some r→(b<st.H.length∧b∉bs∧g.φ b=some r)∨∃ i,Go.AE.back bs st.H.length e i=some b∧g'.φ i=some r:=by
  intro b r h
  rcases hcases b with ⟨h1,h2,h3,h4⟩ | ⟨i,h1,h2,h3,h4⟩ | ⟨h1,h4⟩
  ·exact .inl ⟨h1,h2,by rw [←h4];exact h⟩
  ·exact .inr ⟨i,h1,by rw [←h4];exact h⟩
  ·rw [h4] at h;cases h
 refine ⟨{ size:=hs.size,env:=?_,inj:=?_,lt:=?_,dom:=?_,mem:=?_,iter:=?_,glob:=?_,own:=?_,excl:=?_,apart:=?_,view:=?_},⟨?_,?_,hφ2,by rw [hH2l];exact Nat.le_add_right _ _,rfl⟩,hρ,?_⟩
 ·intro t y hy
  simp only [Jtgt,omS] at hy
  obtain ⟨z,hz,rfl⟩:=hy
  rw [Jt1fh]
  exact hrelO (hs.env t z hz)
 ·intro b b' r h h'
  rcases hφcases b r h with ⟨h1,h2,h3⟩ | ⟨i,h1,h2⟩<;>rcases hφcases b' r h' with ⟨h1',h2',h3'⟩ | ⟨i',h1',h2'⟩
  ·exact hs.inj b b' r h3 h3'
  ·exact absurd (.inl ⟨i',h2'⟩) (hφ_new b r h3 h2)
  ·exact absurd (.inl ⟨i,h2⟩) (hφ_new b' r h3' h2')
  ·have:=hsim.inj i i' r h2 h2'
   subst this
   rw [h1] at h1';injection h1'
 ·intro b r h
  rw [hF2]
  rcases hφcases b r h with ⟨h1,h2,h3⟩ | ⟨i,h1,h2⟩
  ·obtain ⟨k1,k2,k3⟩:=hs.lt b r h3
   exact ⟨Nat.lt_of_lt_of_le k1 htr.size,by rw [(htr.other r k1 (hkeepφ b r h3 h2)).2];exact k2,by show b<H2.length;omega⟩
  ·obtain ⟨k1,k2,k3⟩:=hsim.lt i r h2
   refine ⟨k1,k2,?_⟩
   show b<H2.length
   rcases hcases b with ⟨m1,_⟩ | ⟨i',m1,m2,m3,m4⟩ | ⟨m1,m2⟩
   ·omega
   ·have:Hb[i']?≠none:=by rw [lgE (by omega)];simp
    rw [←m3] at this
    by_cases hb:b<H2.length
    ·exact hb
    ·exact absurd (List.getElem?_eq_none (Nat.le_of_not_lt hb)) this
   ·rw [m2] at h;cases h
 ·intro b k h hk
  rcases hcases b with ⟨h1,h2,h3,h4⟩ | ⟨i,h1,h2,h3,h4⟩ | ⟨h1,_⟩
  ·obtain ⟨r,hr⟩:=hs.dom b k (by rw [←h3];exact h) hk
   exact ⟨r,by rw [h4];exact hr⟩
  ·have h':Hb[i]?=some k:=by rw [←h3];exact h
   obtain ⟨k',hk',hren⟩:=Jt15h hHb i k h'
   rw [List.getElem?_take,if_pos h2] at hk'
   obtain ⟨r,hr⟩:=hsim.dom i k' hk' (fun hd=>by subst hd;simp [Blk.ren] at hren;exact hk hren.symm)
   exact ⟨r,by rw [h4];exact hr⟩
  ·rw [show (⟨Go.AE.unview st.env,H2⟩:ASt).H=H2 from rfl,h1] at h;cases h
 ·intro b cells r h hr
  rcases hcases b with ⟨h1,h2,h3,h4⟩ | ⟨i,h1,h2,h3,h4⟩ | ⟨h1,_⟩
  ·rw [h4] at hr
   obtain ⟨c,te,k1,k2,k3⟩:=hs.mem b cells r (by rw [←h3];exact h) hr
   refine ⟨c,te,by rw [(htr.other r (hs.lt b r hr).1 (hkeepφ b r hr h2)).1];exact k1,k2,fun j y hy=>?_⟩
   obtain ⟨m1,u,m2,m3⟩:=k3 j y hy
   exact ⟨m1,u,m2,hrelO m3⟩
  ·rw [h4] at hr
   obtain ⟨cells',hk',hren⟩:=hcell i b cells h1 h2 (by rw [←h3];exact h)
   obtain ⟨c,te,k1,k2,k3⟩:=hsim.mem i cells' r hk' hr
   refine ⟨c,te,k1,by have:=(Jt15p hren).1;omega,fun j y hy=>?_⟩
   obtain ⟨z,hz,hzr⟩:=Jt15q hren j y hy
   obtain ⟨m1,u,m2,m3⟩:=k3 j z hz
   exact ⟨by rw [ren_leaf hzr];exact m1,u,m2,hrelN m3 (ren_erase hzr)⟩
  ·rw [show (⟨Go.AE.unview st.env,H2⟩:ASt).H=H2 from rfl,h1] at h;cases h
 ·intro b s pos r h hr
  rcases hcases b with ⟨h1,h2,h3,h4⟩ | ⟨i,h1,h2,h3,h4⟩ | ⟨h1,_⟩
  ·rw [h4] at hr
   rw [(htr.other r (hs.lt b r hr).1 (hkeepφ b r hr h2)).1]
   exact hs.iter b s pos r (by rw [←h3];exact h) hr
  ·rw [h4] at hr
   have h':Hb[i]?=some (.iter s pos):=by rw [←h3];exact h
   obtain ⟨k',hk',hren⟩:=Jt15h hHb i _ h'
   rw [List.getElem?_take,if_pos h2] at hk'
   cases k' with
   | mem cells'=>simp only [Blk.ren] at hren;split at hren<;>cases hren
   | iter s' p'=>simp only [Blk.ren] at hren;injection hren with hren;injection hren with e1 e2;subst e1;subst e2;exact hsim.iter i _ _ r hk' hr
   | glob s' p'=>simp [Blk.ren] at hren
   | dead=>simp [Blk.ren] at hren
  ·rw [show (⟨Go.AE.unview st.env,H2⟩:ASt).H=H2 from rfl,h1] at h;cases h
 ·intro b s pos r h hr
  rcases hcases b with ⟨h1,h2,h3,h4⟩ | ⟨i,h1,h2,h3,h4⟩ | ⟨h1,_⟩
  ·rw [h4] at hr
   rw [(htr.other r (hs.lt b r hr).1 (hkeepφ b r hr h2)).1]
   exact hs.glob b s pos r (by rw [←h3];exact h) hr
  ·rw [h4] at hr
   have h':Hb[i]?=some (.glob s pos):=by rw [←h3];exact h
   obtain ⟨k',hk',hren⟩:=Jt15h hHb i _ h'
   rw [List.getElem?_take,if_pos h2] at hk'
   cases k' with
   | mem cells'=>simp only [Blk.ren] at hren;split at hren<;>cases hren
   | glob s' p'=>simp only [Blk.ren] at hren;injection hren with hren;injection hren with e1 e2;subst e1;subst e2;exact hsim.glob i _ _ r hk' hr
   | iter s' p'=>simp [Blk.ren] at hren
   | dead=>simp [Blk.ren] at hren
  ·rw [show (⟨Go.AE.unview st.env,H2⟩:ASt).H=H2 from rfl,h1] at h;cases h
 ·intro p e' rows u h1 h2
  rw [hF2]
  rcases hAP p e' rows h1 with ⟨k1,k2⟩ | ⟨i,b,j,k1,k2,k3,k4⟩
  ·rw [hRPold p e' rows k1 k2] at h2
   rcases hs.own p e' rows u k1 h2 with hn | ⟨r,cap,c,te,m1,m2,m3,m4⟩
   ·exact .inl hn
   ·have hlt:r<w.heap.size:=(Array.getElem?_eq_some_iff.1 m2).1
    have hnm:=hkeepO p r ⟨e',rows,u,k1,h2,_,_,m1⟩ (fun b j h=>(k2 b j h).1)
    obtain ⟨q1,q2⟩:=htr.other r hlt hnm
    exact .inr ⟨r,cap,c,te,m1,by rw [q1];exact m2,by rw [q2];exact m3,m4⟩
  ·rw [k4] at h2
   exact hsim.own (.cell i j) e' rows u k3 h2
 ·intro p p' r h h'
  rcases hO p r h with ⟨k1,k2⟩ | ⟨i,b,j,k1,k2,k3⟩<;>rcases hO p' r h' with ⟨k1',k2'⟩ | ⟨i',b',j',k1',k2',k3'⟩
  ·exact hs.excl p p' r k1 k1'
  ·exact absurd (.inr ⟨_,k3'⟩) (hold_new p r k1 k2)
  ·exact absurd (.inr ⟨_,k3⟩) (hold_new p' r k1' k2')
  ·have:=hsim.excl _ _ r k3 k3'
   injection this with e1 e2
   subst e1;subst e2
   rw [k2] at k2';injection k2' with k2'
   rw [k1,k1',k2']
 ·intro p r b h hb
  rcases hO p r h with ⟨k1,k2⟩ | ⟨i,b',j,k1,k2,k3⟩<;>rcases hφcases b r hb with ⟨m1,m2,m3⟩ | ⟨i',m1,m2⟩
  ·exact hs.apart p r b k1 m3
  ·exact hold_new p r k1 k2 (.inl ⟨i',m2⟩)
  ·exact hφ_new b r m3 m2 (.inr ⟨_,k3⟩)
  ·exact hsim.apart _ r i' k3 m2
 ·intro t org e' rows h
  exact absurd h Jtu2
 ·refine ⟨htr.os,htr.tape,htr.output,htr.size,fun r hr hn=>?_,by rw [hF2];exact hst⟩
  rw [hF2]
  exact htr.other r hr fun hm=>hn (by
   rcases hMc r hm with ⟨b',_,h'⟩ | ⟨b',_,j,h'⟩
   ·exact .inl ⟨b',h'⟩
   ·exact .inr ⟨_,h'⟩)
 ·have hM:∀ r,Mine ⟨[(0,x)],H'⟩ g' ⟨#[v],[]⟩ w' r→Mine st g a w r∨w.heap.size≤r:=by
   intro r hm
   rcases hmine r hm with h1 | h1
   ·rcases hMc r h1 with ⟨b',_,h'⟩ | ⟨b',_,j,h'⟩
    ·exact .inl (.inl ⟨b',h'⟩)
    ·exact .inl (.inr ⟨_,h'⟩)
   ·exact .inr h1
  rintro r (⟨b,hb⟩ | ⟨p,hp⟩)
  ·rcases hφcases b r hb with ⟨m1,m2,m3⟩ | ⟨i',m1,m2⟩
   ·exact .inl (.inl ⟨b,m3⟩)
   ·exact hM r (.inl ⟨i',m2⟩)
  ·rcases hO p r hp with ⟨k1,k2⟩ | ⟨i,b',j,k1,k2,k3⟩
   ·exact .inl (.inr ⟨p,k1⟩)
   ·exact hM r (.inr ⟨_,k3⟩)
 ·rintro r n cap hm ⟨rows,e',hx⟩ hv
  have hown:Owner ⟨[(0,x)],H'⟩ g'.φ ⟨#[v],[]⟩ w' (.tmp 0) r:=⟨e',rows,v,by simp [AP,get,hx],by simp [RP],n,cap,hv⟩
  refine ⟨fun b hb=>?_,fun p hp=>?_⟩
  ·rcases hφcases b r hb with ⟨m1,m2,m3⟩ | ⟨i',m1,m2⟩
   ·exact hφ_new b r m3 m2 hm
   ·exact hsim.apart _ r i' hown m2
  ·rcases hO p r hp with ⟨k1,k2⟩ | ⟨i,b',j,k1,k2,k3⟩
   ·exact hold_new p r k1 k2 hm
   ·have:=hsim.excl _ _ r hown k3
    cases this
end
end Go.AE
namespace Go.AE
open Go Go.ChangeMaps
section
variable {P:Program} {N:Nat} {st:ASt} {g:Gh} {a:Act} {w:World}
def Jtu4:Obj→Bool
 | .map ..=>true
 | .mapIter ..=>true
 | _=>false
theorem Jtu5{w:World}{r:Nat}{o:Obj}(h:Jtu4 o=true)(hr:w.heap[r]?=some o) (j:Nat):w.cell? ⟨r,j,none⟩=none:=by
 cases o<;>simp [Jtu4] at h<;>simp [World.cell?,hr]
theorem Jtu6{w:World}{r:Nat}{o:Obj}(h:Jtu4 o=true)(hr:w.heap[r]?=some o):csize w r=0:=by
 cases o<;>simp [Jtu4] at h<;>simp [csize,hr]
theorem Sim.globUpd(hs:Sim N st g a w){b r0 r:Nat}{o:Obj}(o':Obj)(hb:st.H[b]?=some (.glob r0 o)) (hr:g.φ b=some r) (ho:Jtu4 o=true) (ho':Jtu4 o'=true) :
  Sim N ⟨st.env,st.H.set b (.glob r0 o')⟩ g a (setBlock w r o')∧(∀ q,Mine ⟨st.env,st.H.set b (.glob r0 o')⟩ g a (setBlock w r o') q→Mine st g a w q)∧Tr (Mine st g a w) g w g (setBlock w r o'):=by
 have hblt:b<st.H.length:=(lgS.1 hb).1
 obtain ⟨hr0,hit⟩:=hs.glob b r0 o r hb hr
 have hrl:=(hs.lt b r hr).1
 have hset:∀ b',(st.H.set b (.glob r0 o'))[b']?=if b'=b then some (.glob r0 o') else st.H[b']?:=by
  intro b'
  rw [List.getElem?_set]
  by_cases h:b'=b
  ·subst h;simp [hblt]
  ·rw [if_neg (Ne.symm h),if_neg h]
 have hothr:∀ q,q≠r→(setBlock w r o').heap[q]?=w.heap[q]?:=by
  intro q hq
  simp only [setBlock,Array.getElem?_setIfInBounds]
  rw [if_neg (Ne.symm hq)]
 have hsame:(setBlock w r o').heap[r]?=some o':=by
  simp only [setBlock,Array.getElem?_setIfInBounds,if_true,hrl]
 have hsize:(setBlock w r o').heap.size=w.heap.size:=by simp [setBlock]
 have hcell:∀ q j,(setBlock w r o').cell? ⟨q,j,none⟩=w.cell? ⟨q,j,none⟩:=by
  intro q j
  by_cases hq:q=r
  ·subst hq;rw [Jtu5 ho' hsame,Jtu5 ho hit]
  ·exact World.cell?_of_block (a:=⟨q,j,none⟩) (hothr q hq)
 have hst:Stab g.F w g.F (setBlock w r o'):=⟨fun _ _=>Nat.le_refl _,fun q j u hj hu=>by rw [hcell];exact hu,fun q=>by
  by_cases hq:q=r
  ·subst hq;rw [Jtu6 ho hit];exact Nat.zero_le _
  ·rw [Jtcx (hothr q hq)];exact Nat.le_refl _⟩
 have hrel':∀ {x:AV} {u:Value},Rel g.F g.φ w x u→Rel g.F g.φ (setBlock w r o') x u:=fun h=>h.stab hst (fun _ _ h=>h)
 have hAP:∀ p e rows,AP ⟨st.env,st.H.set b (.glob r0 o')⟩ p=some (.own e rows)→AP st p=some (.own e rows):=by
  intro p e rows h
  cases p with
  | tmp t=>exact h
  | cell b' j=>
   simp only [AP,hset] at h ⊢
   by_cases hb':b'=b
   ·subst hb';rw [if_pos rfl] at h;cases h
   ·rw [if_neg hb'] at h;exact h
 have hAP':∀ p e rows,AP st p=some (.own e rows)→AP ⟨st.env,st.H.set b (.glob r0 o')⟩ p=some (.own e rows):=by
  intro p e rows h
  cases p with
  | tmp t=>exact h
  | cell b' j=>
   simp only [AP,hset] at h ⊢
   by_cases hb':b'=b
   ·subst hb';rw [hb] at h;cases h
   ·rw [if_neg hb'];exact h
 have hRP:∀ p,RP g.φ a (setBlock w r o') p=RP g.φ a w p:=by
  intro p
  cases p with
  | tmp t=>rfl
  | cell b' j=>
   simp only [RP]
   cases g.φ b' with
   | none=>rfl
   | some q=>simp only [Option.bind_some,hcell]
 have hO:∀ p q,Owner ⟨st.env,st.H.set b (.glob r0 o')⟩ g.φ a (setBlock w r o') p q→Owner st g.φ a w p q:=by
  rintro p q ⟨e,rows,v,h1,h2,h3⟩
  exact ⟨e,rows,v,hAP p e rows h1,by rw [←hRP];exact h2,h3⟩
 refine ⟨{ size:=hs.size,env:=fun t x hx=>hrel' (hs.env t x hx),inj:=hs.inj,lt:=?_,dom:=?_,mem:=?_,iter:=?_,glob:=?_,own:=?_,excl:=?_,apart:=?_,view:=?_},?_,?_⟩
 ·intro b' q h
  obtain ⟨h1,h2,h3⟩:=hs.lt b' q h
  exact ⟨by rw [hsize];exact h1,h2,by simpa using h3⟩
 ·intro b' k h hk
  rw [hset] at h
  split at h
  ·rename_i hb';subst hb';exact ⟨r,hr⟩
  ·exact hs.dom b' k h hk
 ·intro b' cs q h hq
  rw [hset] at h
  split at h
  ·cases h
  ·rename_i hb'
   obtain ⟨c1,e1,k1,k2,k3⟩:=hs.mem b' cs q h hq
   refine ⟨c1,e1,by rw [hothr q (fun he=>hb' (hs.inj _ _ q hq (by rw [he];exact hr)))];exact k1,k2,fun j x hx=>?_⟩
   obtain ⟨m1,u,m2,m3⟩:=k3 j x hx
   exact ⟨m1,u,m2,hrel' m3⟩
 ·intro b' s' p' q h hq
  rw [hset] at h
  split at h
  ·cases h
  ·rename_i hb'
   rw [hothr q (fun he=>hb' (hs.inj _ _ q hq (by rw [he];exact hr)))]
   exact hs.iter b' s' p' q h hq
 ·intro b' r1 o1 q h hq
  rw [hset] at h
  split at h
  ·rename_i hb';subst hb'
   injection h with h;injection h with h h';subst h;subst h'
   rw [hr] at hq;injection hq with hq;subst hq
   exact ⟨hr0,hsame⟩
  ·rename_i hb'
   rw [hothr q (fun he=>hb' (hs.inj _ _ q hq (by rw [he];exact hr)))]
   exact hs.glob b' r1 o1 q h hq
 ·intro p e rows v h1 h2
  have h1':=hAP p e rows h1
  rw [hRP] at h2
  rcases hs.own p e rows v h1' h2 with h | ⟨q,cap,c1,e1,k1,k2,k3⟩
  ·exact .inl h
  ·refine .inr ⟨q,cap,c1,e1,k1,?_,k3⟩
   rw [hothr q (fun he=>hs.apart p q b ⟨e,rows,v,h1',h2,_,_,k1⟩ (by rw [he];exact hr))];exact k2
 ·exact fun p p' q h h'=>hs.excl p p' q (hO p q h) (hO p' q h')
 ·exact fun p q b' h=>hs.apart p q b' (hO p q h)
 ·intro t org e rows h
  obtain ⟨k1,k2⟩:=hs.view t org e rows h
  exact ⟨hAP' org e rows k1,by rw [hRP];exact k2⟩
 ·rintro q (⟨b',hb'⟩ | ⟨p,hp⟩)
  ·exact .inl ⟨b',hb'⟩
  ·exact .inr ⟨p,hO p q hp⟩
 ·exact ⟨rfl,rfl,rfl,by rw [hsize];exact Nat.le_refl _,fun q hq hn=>⟨hothr q (fun he=>hn (.inl ⟨b,by rw [he];exact hr⟩)),rfl⟩,hst⟩
theorem Sim.newGlob(hs:Sim N st g a w)(o:Obj)(ho:Jtu4 o=true):∃ g1,Sim N ⟨st.env,st.H++[.glob w.heap.size o]⟩ g1 a (w.alloc o)∧Step st g a w ⟨st.env,st.H++[.glob w.heap.size o]⟩ g1 a (w.alloc o)∧g1.φ st.H.length=some w.heap.size:=by
 have hgr:=Jth3 (g:=g) (w:=w) (Mine st g a w) o 0
 have hs1:=hs.grew hgr
 have hfresh:=hs.fresh
 have hs2:=hs1.addBlk (k:=.glob w.heap.size o) (r:=w.heap.size) (by simp) (by simp [Gh.setF]) hfresh.1
  (fun p h=>hfresh.2 p ((Jt5e hs hgr).1 h)) (fun cs h=>by cases h) (fun cs h=>by cases h)
  (fun s' p' h=>by cases h) (fun r0 o0 h=>by injection h with h1 h2;subst h1;subst h2;exact ⟨rfl,heap_alloc_new w _⟩)
 refine ⟨_,hs2.1,⟨⟨rfl,rfl,rfl,by simp,fun r hr _=>⟨heap_alloc_old w _ hr,by simp only [Gh.add,Gh.setF];rw [if_neg (by omega)]⟩,hgr.stab⟩,fun r h=>?_,fun b r h=>?_,by simp,rfl⟩,by simp [Gh.add]⟩
 ·rcases hs2.2 r h with h1 | h1
  ·exact .inl ((Jt5a hs hgr).1 h1)
  ·exact .inr (by omega)
 ·exact Jt6e hs1 _ b r h
theorem Rel.mp_inv{F:Nat→Nat}{φ:Nat→Option Nat}{r:Nat}{v:Value}(h:Rel F φ w (.mp r) v):v=.map (some r):=by cases h;rfl
theorem Jts8{k e:TypeId}(h:mapOk P k e=true):P.underlying k=some (.int .i64)∧P.underlying e=some .bool∧∃ i,P.info? e=some i∧i.zero=some (.bool false):=by
 unfold mapOk at h
 split at h
 ·rename_i i h1 h2 h3
  split at h
  ·rename_i hz;exact ⟨h1,h2,i,h3,hz⟩
  ·cases h
 ·cases h
theorem Sim.mapAt(hs:Sim N st g a w){b r:Nat}{o:Obj}(hb:st.H[b]?=some (.glob r o)):g.φ b=some r∧w.heap[r]?=some o:=by
 obtain ⟨q,hq⟩:=hs.dom b _ hb (by intro h;cases h)
 obtain ⟨h1,h2⟩:=hs.glob b r o q hb hq
 subst h1
 exact ⟨hq,h2⟩
theorem Jt3q(hs:Sim N st g a w){o:Oper}{t:TypeId}{K:ASt→Prop}{QP:AV→ASt→Prop}{next:Act→World→Prop}{Q:Exit→Act→World→Prop}(ho:o.op=.makeMap t none)
  (hd:∀ d,o.dst=some d→d<N) (h:AWmo .mk o.dst K st) (hg:GoesOn N st g a w K QP next Q):o.wp P a w next Q:=by
 obtain ⟨g1,k1,k2,k3⟩:=hs.newGlob (mpO [] 0) rfl
 have hp:=k1.put (P:=P) (dst:=o.dst) hd (x:=.mp w.heap.size) (v:=.map (some w.heap.size)) (.mp _) (fun org e rows h=>by cases h) (fun e rows h=>by cases h)
 refine Jt1lb (v:=.map (some w.heap.size)) (w':=w.alloc (mpO [] 0)) ?_ (hg.1 _ _ _ _ (h w.heap.size) hp.1 (k2.trans (Step.same hp.2 (put_H _ _ _))))
 unfold execOp
 simp only [ho,Instr.makeMap]
 simp [mpO,newObj,Sem.run,Result.andThen]
def mkE(p:Int × Nat):MapEntry:={ key:=.int .i64 p.1,val:=.bool true,born:=p.2}
theorem mpO_eq (es:List (Int × Nat)) (c:Nat):mpO es c=.map (es.map mkE).toArray c:=rfl
theorem Jtfx(n:Int):∀ (es:List (Int × Nat)) (i:Nat),(n∉es.map Prod.fst→Instr.findNow (.int .i64) (.int .i64 n) (es.map mkE) i=some none)∧
  (n∈es.map Prod.fst→∃ j e,es[j]?=some e∧e.1=n∧Instr.findNow (.int .i64) (.int .i64 n) (es.map mkE) i=some (some (i+j,.bool true))):=by
 intro es
 induction es with
 | nil=>intro i;exact ⟨fun _=>rfl,fun h=>by simp at h⟩
 | cons e es ih=>
  intro i
  obtain ⟨h1,h2⟩:=ih (i+1)
  by_cases he:n=e.1
  ·refine ⟨fun h=>absurd (by simp [he]) h,fun _=>⟨0,e,rfl,he.symm,?_⟩⟩
   simp [Instr.findNow,Instr.sameNow,mkE,he]
  ·have hb:(n==e.1)=false:=by simpa using he
   have e1:Instr.findNow (.int .i64) (.int .i64 n) ((e::es).map mkE) i=Instr.findNow (.int .i64) (.int .i64 n) (es.map mkE) (i+1):=by
    simp [Instr.findNow,Instr.sameNow,mkE,hb]
   rw [e1]
   refine ⟨fun h=>h1 fun h3=>h (List.mem_cons_of_mem _ h3),fun h=>?_⟩
   have h3:n∈es.map Prod.fst:=by
    rcases List.mem_cons.1 h with h | h
    ·exact absurd h he
    ·exact h
   obtain ⟨j,e',k1,k2,k3⟩:=h2 h3
   exact ⟨j+1,e',k1,k2,by rw [k3];congr 3;omega⟩
theorem Jtau{kt:TypeId}{k:IntKind}(h:P.underlying kt=some (.int k)) (em:Bool) (v:Value) (w:World):(Instr.checkKey em 10000 kt v).run P w=.ok () w:=by
 show (Instr.checkKey em (9999+1) kt v).run P w=.ok () w
 unfold Instr.checkKey
 simp only [Sem.run_bind,run_underlying h,Result.andThen_ok]
 rfl
theorem Jtfw{kt:TypeId}(h:P.underlying kt=some (.int .i64)) {k:Value} {es:List MapEntry} {r:Option (Nat × Value)} (hf:Instr.findNow (.int .i64) k es 0=some r) (w:World):(Instr.findKey kt k es).run P w=.ok r w:=by
 unfold Instr.findKey
 simp only [Sem.run_bind,run_underlying h,Result.andThen_ok,hf]
 rfl
theorem Jt179{w:World}{r:Nat}{o:Obj}(h:w.heap[r]?=some o) (ho:Jtu4 o=true):(getObj r).run P w=.ok o w:=by
 cases o<;>simp [Jtu4] at ho<;>simp [getObj,Sem.run,h]
theorem Jt17e{w:World}{r:Nat}{o:Obj}(h:w.heap[r]?=some o) (ho:Jtu4 o=true) (o':Obj):(setObj r o').run P w=.ok () (setBlock w r o'):=by
 cases o<;>simp [Jtu4] at ho<;>simp [setObj,Sem.run,h,setBlock]
theorem Jt3p(hs:Sim N st g a w){o:Oper}{t kt et:TypeId}{x k:Operand}{x' k':Opd}{K:ASt→Prop}{QP:AV→ASt→Prop}{next:Act→World→Prop}{Q:Exit→Act→World→Prop}(ho:o.op=.lookup t x k false)
  (ht:P.underlying t=some (.map kt et)) (hok:mapOk P kt et=true) (hx:cOpd x=some x') (hk:cOpd k=some k') (hd:∀ d,o.dst=some d→d<N) (h:AWmo (.get x' k') o.dst K st) (hg:GoesOn N st g a w K QP next Q):o.wp P a w next Q:=by
 obtain ⟨r,n,b,es,c,e1,e2,e3,hK⟩:=h
 obtain ⟨hk1,hk2,i,hk3,hk4⟩:=Jts8 hok
 have vx:=(Jtfd hs hx e1).1.mp_inv
 have vk:=(Jtfd hs hk e2).1.int_inv
 obtain ⟨hφ,hh⟩:=hs.mapAt e3
 rw [mpO_eq] at hh
 have hp:=hs.put (P:=P) (dst:=o.dst) hd (x:=.d (.bool (decide (n∈es.map Prod.fst)))) (v:=.bool (decide (n∈es.map Prod.fst))) (.d _ _ (.bool _)) (fun org e rows h=>by cases h) (fun e rows h=>by cases h)
 refine Jt1lb (v:=.bool (decide (n∈es.map Prod.fst))) (w':=w) ?_ (hg.1 _ _ _ _ hK hp.1 (Step.same hp.2 (put_H _ _ _)))
 obtain ⟨f1,f2⟩:=Jtfx n es 0
 unfold execOp
 by_cases hn:n∈es.map Prod.fst
 ·obtain ⟨j,e,g1,g2,g3⟩:=f2 hn
  have g4:=Jtfw hk1 g3 w
  simp only [ho,vx,vk,Instr.lookup,Sem.run_bind,run_underlying ht,Jt179 hh rfl,Result.andThen_ok,Jtau hk1,Sem.run_pure,hn,decide_true,g4]
  rfl
 ·have g3:=f1 hn
  have g4:=Jtfw hk1 g3 w
  have g5:(zeroValue et).run P w=.ok (.bool false) w:=by simp [zeroValue,typeInfo,hk3,hk4]
  simp only [ho,vx,vk,Instr.lookup,Sem.run_bind,run_underlying ht,Jt179 hh rfl,Result.andThen_ok,Jtau hk1,Sem.run_pure,hn,decide_false,g4,g5]
  rfl
theorem Jt3t(hs:Sim N st g a w){o:Oper}{c:Call}{t kt et:TypeId}{x:Operand}{x':Opd}{K:ASt→Prop}{QP:AV→ASt→Prop}{next:Act→World→Prop}{Q:Exit→Act→World→Prop}(ho:o.op=.call c)(hcal:c.callee=.builtin .len)
  (hargs:c.args.toList=[x]) (hts:c.argTypes.toList=[t]) (ht:P.underlying t=some (.map kt et)) (hx:cOpd x=some x') (hd:∀ d,o.dst=some d→d<N) (h:AWmo (.len x') o.dst K st) (hg:GoesOn N st g a w K QP next Q):o.wp P a w next Q:=by
 obtain ⟨r,b,es,cl,e1,e3,hK⟩:=h
 have vx:=(Jtfd hs hx e1).1.mp_inv
 obtain ⟨hφ,hh⟩:=hs.mapAt e3
 rw [mpO_eq] at hh
 have hp:=hs.put (P:=P) (dst:=o.dst) hd (x:=.d (.int .i64 es.length)) (v:=.int .i64 es.length) (.d _ _ (.int _ _)) (fun org e rows h=>by cases h) (fun e rows h=>by cases h)
 refine Jt1lb (v:=.int .i64 es.length) (w':=w) ?_ (hg.1 _ _ _ _ hK hp.1 (Step.same hp.2 (put_H _ _ _)))
 have a1:c.args=#[x]:=by rw [←hargs]
 have a2:c.argTypes=#[t]:=by rw [←hts]
 unfold execOp
 simp [ho,resolve,hcal,a1,a2,invoke,builtin,Builtin.len_,run_underlying ht,vx,Jt179 hh rfl,goInt,Result.andThen_ok]
theorem Jtm8(n:Int)(w:World):(Instr.keyThatStays (.int .i64 n) (.int .i64 n)).run P w=.ok (.int .i64 n) w:=by
 unfold Instr.keyThatStays
 have:Instr.sameBits 10000 (.int .i64 n) (.int .i64 n)=true:=by
  show Instr.sameBits (9999+1) (.int .i64 n) (.int .i64 n)=true
  unfold Instr.sameBits;simp
 rw [if_pos this];rfl
theorem Jt3x(hs:Sim N st g a w){o:Oper}{t kt et:TypeId}{x k v:Operand}{x' k' v':Opd}{K:ASt→Prop}{QP:AV→ASt→Prop}{next:Act→World→Prop}{Q:Exit→Act→World→Prop}(ho:o.op=.mapUpdate t x k v)
  (ht:P.underlying t=some (.map kt et)) (hok:mapOk P kt et=true) (hx:cOpd x=some x') (hk:cOpd k=some k') (hv:cOpd v=some v') (h:AWmo (.set x' k' v') o.dst K st) (hg:GoesOn N st g a w K QP next Q):o.wp P a w next Q:=by
 obtain ⟨hdst,r,n,b,es,c,e1,e2,e4,e3,hK⟩:=h
 obtain ⟨hk1,hk2,i,hk3,hk4⟩:=Jts8 hok
 have vx:=(Jtfd hs hx e1).1.mp_inv
 have vk:=(Jtfd hs hk e2).1.int_inv
 have vv:=(Jtfd hs hv e4).1.bool_inv
 have hu:=hs.unview
 obtain ⟨hφ,hh⟩:=hs.mapAt e3
 obtain ⟨k1,k2,k3⟩:=hu.globUpd (mpO (mputE es c n) (mputC es c n)) (b:=b) (r:=r) e3 hφ rfl rfl
 rw [mpO_eq] at hh
 have hst:Step st g a w ⟨Go.AE.unview st.env,st.H.set b (.glob r (mpO (mputE es c n) (mputC es c n)))⟩ g a (setBlock w r (mpO (mputE es c n) (mputC es c n))):=
  ⟨k3.mono fun q hq=>Jt5b.1 hq,fun q hq=>.inl (Jt5b.1 (k2 q hq)),fun b r h=>h,by simp,rfl⟩
 have hex:(execOp a.eval o).run P w=.ok .skip (setBlock w r (mpO (mputE es c n) (mputC es c n))):=by
  obtain ⟨f1,f2⟩:=Jtfx n es 0
  unfold execOp
  by_cases hn:n∈es.map Prod.fst
  ·obtain ⟨j,e,g1,g2,g3⟩:=f2 hn
   have g4:=Jtfw hk1 g3 w
   rw [Nat.zero_add] at g4
   have g5:(es.map mkE).toArray[j]?=some (mkE e):=by simp [g1]
   have g6:mpO (mputE es c n) (mputC es c n)=.map ((es.map mkE).toArray.modify j fun e=>{ e with key:=.int .i64 n,val:=.bool true}) c:=by
    rw [mputE,mputC,if_pos hn,if_pos hn,mpO_eq]
    congr 1
    apply Array.ext_getElem?
    intro q
    rw [Array.getElem?_modify]
    by_cases hq:j=q
    ·subst hq
     rw [if_pos rfl,g5]
     simp [mkE,g2]
    ·rw [if_neg hq]
   rw [g6]
   simp only [ho,vx,vk,vv,Instr.mapUpdate,Sem.run_bind,run_underlying ht,Jt179 hh rfl,Result.andThen_ok,Jtau hk1,Sem.run_pure,g4,g5,Option.map_some,Option.getD_some,mkE,g2,Jtm8,Jt17e hh rfl]
  ·have g3:=f1 hn
   have g4:=Jtfw hk1 g3 w
   have g6:mpO (mputE es c n) (mputC es c n)=.map ((es.map mkE).toArray.push { key:=.int .i64 n,val:=.bool true,born:=c}) (c+1):=by
    rw [mputE,mputC,if_neg hn,if_neg hn,mpO_eq,List.map_append]
    simp [mkE]
   rw [g6]
   simp only [ho,vx,vk,vv,Instr.mapUpdate,Sem.run_bind,run_underlying ht,Jt179 hh rfl,Result.andThen_ok,Jtau hk1,Sem.run_pure,g4,Jt17e hh rfl]
 unfold Oper.wp
 rw [hex]
 show next (a.put o.dst undef) _
 rw [hdst]
 exact hg.1 _ _ _ _ hK k1 hst
theorem Jt3w(hs:Sim N st g a w){o:Oper}{t kt et:TypeId}{x:Operand}{x':Opd}{K:ASt→Prop}{QP:AV→ASt→Prop}{next:Act→World→Prop}{Q:Exit→Act→World→Prop}(ho:o.op=.range t x)
  (ht:P.underlying t=some (.map kt et)) (hx:cOpd x=some x') (hd:∀ d,o.dst=some d→d<N) (h:AWmo (.rng x') o.dst K st) (hg:GoesOn N st g a w K QP next Q):o.wp P a w next Q:=by
 obtain ⟨r,b,es,c,e1,e3,hK⟩:=h
 have vx:=(Jtfd hs hx e1).1.mp_inv
 obtain ⟨hφ,hh⟩:=hs.mapAt e3
 rw [mpO_eq] at hh
 obtain ⟨g1,k1,k2,k3⟩:=hs.newGlob (itO r c []) rfl
 obtain ⟨m1,m2⟩:=putPtr k1 k2 hd (b:=st.H.length) (off:=0) (v:=.pointer (some ⟨w.heap.size,0,none⟩)) (.ptr _ _ _ k3)
 refine Jt1lb (v:=.pointer (some ⟨w.heap.size,0,none⟩)) (w':=w.alloc (itO r c [])) ?_ (hg.1 _ _ _ _ (hK w.heap.size) m1 m2)
 have hrun:=run_range_map (P:=P) w t kt et r _ _ ht hh
 unfold execOp
 simp only [ho,vx,Sem.run_bind,hrun,Result.andThen_ok,Sem.run_pure]
 rfl
theorem Jt3u(hs:Sim N st g a w){o:Oper}{x:Operand}{x':Opd}{K:ASt→Prop}{QP:AV→ASt→Prop}{next:Act→World→Prop}{Q:Exit→Act→World→Prop}(ho:o.op=.next x false)
  (hx:cOpd x=some x') (hd:∀ d,o.dst=some d→d<N) (h:AWmo (.nxt x') o.dst K st) (hg:GoesOn N st g a w K QP next Q):o.wp P a w next Q:=by
 obtain ⟨bi,r',r,b,es,c,seen,e1,hbi,hb,hlt,hK1,hK2⟩:=h
 obtain ⟨q,hq,hv⟩:=(Jtfd hs hx e1).1.ptr_inv
 obtain ⟨hφi,hhi⟩:=hs.mapAt hbi
 rw [hφi] at hq;injection hq with hq;subst hq
 obtain ⟨hφ,hh⟩:=hs.mapAt hb
 have hu:=hs.unview
 rw [mpO_eq] at hh
 rcases run_next_at (P:=P) w o.type r' r c c seen.toArray (es.map mkE).toArray c hhi hh (fun x hx=>by
   simp only [List.mem_map] at hx
   obtain ⟨p,hp,rfl⟩:=hx
   exact hlt p hp) (Nat.le_refl _) with ⟨h0,hrun⟩ | ⟨e,he,w1,hw1,hrun⟩
 ·have hall:∀ e∈es,e.2∈seen:=by
   intro e he
   have h1:leftOf (es.map mkE).toArray seen.toArray=#[]:=Array.eq_empty_of_size_eq_zero h0
   unfold leftOf at h1
   rw [Array.filter_eq_empty_iff] at h1
   have:=h1 (mkE e) (by simp;exact ⟨_,_,he,rfl⟩)
   simpa [mkE] using this
  have hK:=hK2 hall
  have hpt:=hu.put (P:=P) (dst:=o.dst) hd (x:=.tup [.d (.bool false)]) (v:=.tuple #[.bool false])
   (.tup _ _ rfl (fun j x u hx hu=>by
    match j with
    | 0=>simp at hx hu;subst hx;subst hu;exact .d _ _ (.bool _)
    | j+1=>simp at hx)) (fun org e rows h=>by cases h) (fun e rows h=>by cases h)
  have hst:Step st g a w ⟨Go.AE.unview st.env,st.H⟩ g a w:=Step.same (fun q hq=>Jt5b.1 hq) rfl
  refine Jt1lb (v:=.tuple #[.bool false]) (w':=w) ?_ (hg.1 _ _ _ _ hK hpt.1 (hst.trans (Step.same hpt.2 (put_H _ _ _))))
  unfold execOp
  simp only [ho,hv,Sem.run_bind,hrun,Result.andThen_ok,Sem.run_pure]
 ·obtain ⟨p,hp,hps,rfl⟩:∃ p∈es,p.2∉seen∧e=mkE p:=by
   simp only [leftOf,Array.toList_filter,List.mem_filter,List.mem_map] at he
   obtain ⟨⟨p,hp,rfl⟩,h2⟩:=he
   exact ⟨p,hp,by simpa [mkE] using h2,rfl⟩
  have hK:=hK1 p hp hps
  have hs1:Sim N ⟨Go.AE.unview st.env,st.H⟩ g a w1∧(∀ q,Mine ⟨Go.AE.unview st.env,st.H⟩ g a w1 q↔Mine ⟨Go.AE.unview st.env,st.H⟩ g a w q)∧w1.os=w.os∧w1.tape=w.tape∧w1.output=w.output∧w1.heap=w.heap:=by
   rcases hw1 with rfl | rfl
   ·exact ⟨hu,fun _=>Iff.rfl,rfl,rfl,rfl,rfl⟩
   ·exact ⟨hu.drew.1,hu.drew.2,rfl,rfl,rfl,rfl⟩
  obtain ⟨s1,s2,s3,s4,s5,s6⟩:=hs1
  obtain ⟨k1,k2,k3⟩:=s1.globUpd (itO r c (seen++[p.2])) (b:=bi) (r:=r') hbi hφi rfl rfl
  have hcs:∀ q,csize w1 q=csize w q:=fun q=>Jtcx (by rw [s6])
  have hce:∀ ad,w1.cell? ad=w.cell? ad:=fun ad=>by simp only [World.cell?,s6]
  have htr:Tr (Mine st g a w) g w g (setBlock w1 r' (itO r c (seen++[p.2]))):=by
   refine Tr.mono (O:=Mine ⟨Go.AE.unview st.env,st.H⟩ g a w1) ⟨k3.os.trans s3,k3.tape.trans s4,k3.output.trans s5,by have:=k3.size;rw [s6] at this;exact this,fun q hq hn=>?_,⟨fun q hq=>k3.stab.le q (by rw [s6];exact hq),fun q j u hj hu=>k3.stab.cell q j u hj (by rw [hce];exact hu),fun q=>by rw [←hcs];exact k3.stab.size q⟩⟩ fun q hq=>Jt5b.1 ((s2 q).1 hq)
   have:=k3.other q (by rw [s6];exact hq) hn
   rw [s6] at this;exact this
  have hst:Step st g a w ⟨Go.AE.unview st.env,st.H.set bi (.glob r' (itO r c (seen++[p.2])))⟩ g a (setBlock w1 r' (itO r c (seen++[p.2]))):=
   ⟨htr,fun q hq=>.inl (Jt5b.1 ((s2 q).1 (k2 q hq))),fun b r h=>h,by simp,rfl⟩
  have hpt:=k1.put (P:=P) (dst:=o.dst) hd (x:=.tup [.d (.bool true),.d (.int .i64 p.1),.d (.bool true)]) (v:=.tuple #[.bool true,.int .i64 p.1,.bool true])
   (.tup _ _ rfl (fun j x u hx hu=>by
    match j with
    | 0=>simp at hx hu;subst hx;subst hu;exact .d _ _ (.bool _)
    | 1=>simp at hx hu;subst hx;subst hu;exact .d _ _ (.int _ _)
    | 2=>simp at hx hu;subst hx;subst hu;exact .d _ _ (.bool _)
    | j+3=>simp at hx)) (fun org e rows h=>by cases h) (fun e rows h=>by cases h)
  refine Jt1lb (v:=.tuple #[.bool true,.int .i64 p.1,.bool true]) (w':=setBlock w1 r' (itO r c (seen++[p.2]))) ?_ (hg.1 _ _ _ _ hK hpt.1 (hst.trans (Step.same hpt.2 (put_H _ _ _))))
  have hw:setBlock w1 r' (.mapIter (some r) c (seen.toArray.push (mkE p).born) c)=setBlock w1 r' (itO r c (seen++[p.2])):=by simp [itO,mkE]
  rw [hw] at hrun
  unfold execOp
  simp only [ho,hv,Sem.run_bind,hrun,Result.andThen_ok,Sem.run_pure]
  rfl
theorem Jt3o(hs:Sim N st g a w){o:Oper}{x:Operand}{x':Opd}{K:ASt→Prop}{QP:AV→ASt→Prop}{next:Act→World→Prop}{Q:Exit→Act→World→Prop}(ho:o.op=.entry x)
  (hx:cOpd x=some x') (hd:∀ d,o.dst=some d→d<N) (h:AWmo (.ent x') o.dst K st) (hg:GoesOn N st g a w K QP next Q):o.wp P a w next Q:=by
 obtain ⟨bi,r',r,b,es,c,seen,e,e1,hbi,hb,he,hn,hK⟩:=h
 obtain ⟨q,hq,hv⟩:=(Jtfd hs hx e1).1.ptr_inv
 obtain ⟨hφi,hhi⟩:=hs.mapAt hbi
 rw [hφi] at hq;injection hq with hq;subst hq
 obtain ⟨hφ,hh⟩:=hs.mapAt hb
 rw [mpO_eq] at hh
 have hhi':w.heap[r']?=some (.mapIter (some r) c (seen.toArray.push (mkE e).born) c):=by rw [hhi];simp [itO,mkE]
 have hrun:=run_entry_at (P:=P) w r' r c seen.toArray (es.map mkE).toArray c (mkE e) hhi' hh (by simp;exact ⟨_,_,he,rfl⟩) (by
  have:((es.map mkE).toArray.toList.map fun x=>x.born)=es.map Prod.snd:=by simp [mkE,List.map_map,Function.comp_def]
  rw [this];exact hn)
 have hpt:=hs.put (P:=P) (dst:=o.dst) hd (x:=.tup [.d (.int .i64 e.1),.d (.bool true)]) (v:=.tuple #[.int .i64 e.1,.bool true])
  (.tup _ _ rfl (fun j x u hx hu=>by
   match j with
   | 0=>simp at hx hu;subst hx;subst hu;exact .d _ _ (.int _ _)
   | 1=>simp at hx hu;subst hx;subst hu;exact .d _ _ (.bool _)
   | j+2=>simp at hx)) (fun org e rows h=>by cases h) (fun e rows h=>by cases h)
 refine Jt1lb (v:=.tuple #[.int .i64 e.1,.bool true]) (w':=w) ?_ (hg.1 _ _ _ _ hK hpt.1 (Step.same hpt.2 (put_H _ _ _)))
 unfold execOp
 simp only [ho,hv,Sem.run_bind,hrun,Result.andThen_ok,Sem.run_pure]
 rfl
theorem Jt3r(hs:Sim N st g a w){o:Oper}{t e:TypeId}{n b:Nat}{z:List AV}{l c:Operand}{l' c':Opd}{K:ASt→Prop}{QP:AV→ASt→Prop}{next:Act→World→Prop}{Q:Exit→Act→World→Prop}
  (ho:o.op=.makeSlice t l c) (hu:P.underlying t=some (.slice e)) (hn:szOf P e=some n) (hb:byOf P e=some b) (hz:zeroOf P e=some z) (hl:cOpd l=some l') (hc:cOpd c=some c')
  (hd:∀ d,o.dst=some d→d<N) (h:AWmo (.mks n b z l' c') o.dst K st) (hg:GoesOn N st g a w K QP next Q):o.wp P a w next Q:=by
 obtain ⟨cv,h1,h2,h3,h4,h5,h6,h7,h8,hK⟩:=h
 exact Jtth hs ho hu hn hb hz hl hc hd h1 h2 h3 h4 h5 h6 h7 hK hg
end
section
variable {P:Program} {N:Nat} {st:ASt} {g:Gh} {a:Act} {w:World}
theorem Jt3n(hs:Sim N st g a w){f:Nat}{as:List AV}{vs:Array Value}{dst:Option Nat}{K:ASt→Prop}{QP:AV→ASt→Prop}{next:Act→World→Prop}{Q:Exit→Act→World→Prop}
  (hr:RelL g.F g.φ w as vs.toList) (hd:∀ d,dst=some d→d<N) (h:Jt3m P f as dst K QP st) (hg:GoesOn N st g a w K QP next Q):Calls P f vs w (Jt50 dst a next Q):=by
 obtain ⟨bs,hnd,cargs,Hp,Hc,hca,hp,hc,hcall⟩:=h
 obtain ⟨hsim,hmine0⟩:=hs.call hnd hr hca hp hc
 have hvs:vs.size=cargs.length:=by
  have h1:=hr.1
  have h2:=(Jt15p hca).1
  simp at h1;omega
 have hbl:∀ b∈bs,b<st.H.length:=by
  intro b hb
  obtain ⟨i,hi⟩:=List.getElem?_of_mem hb
  obtain ⟨k,hk,_⟩:=(Jtxo hp).2 i b hi
  exact (lgS.1 hk).1
 have hcl:Hc.length=bs.length:=by rw [←(Jt15g hc).1,(Jtxo hp).1]
 refine (hcall (g.of bs) vs w hvs hsim).mono ?_
 rintro en w' ⟨o,H',g',v,⟨e,Hb,y,hHb,hle,hy,hq⟩,rfl,hsim',htr,hφ,_,hmine⟩
 obtain ⟨h1,h2,h3,h4⟩:=hs.back hnd hbl hmine0 hsim' htr (fun i b r hi hb=>hφ i r (by rw [hcl];exact (lgS.1 hi).1) (by simp [Gh.of,hi,hb])) hmine hHb hle
 have hrel:Rel (g.back g' bs st.H.length e).F (g.back g' bs st.H.length e).φ w' y.erase v:=by
  have h0:=hsim'.env 0 o.val (by simp [get])
  have h1:Rel g'.F g'.φ w' o.val.erase v:=by simpa using h0
  exact h1.ren h3 _ (ren_erase hy)
 cases o with
 | ret x=>
  simp only [AOut.val] at hy hrel hq h4 hsim'
  show next (a.put dst v) w'
  by_cases hown:∃ e rows,x=.own e rows
  ·obtain ⟨e1,rows,rfl⟩:=hown
   simp only [AV.ren] at hy
   injection hy with hy;subst hy
   cases dst with
   | none=>exact hg.1 _ _ _ _ hq h1 h2
   | some d=>
    have ho:OwnAt g'.F w' e1 rows v:=hsim'.own (.tmp 0) e1 rows v (by simp [AP,get]) (by simp [RP])
    have hO:∀ r n cap,v=.slice (some ⟨r,0,none⟩) n cap→Owner ⟨[(0,.own e1 rows)],H'⟩ g'.φ ⟨#[v],[]⟩ w' (.tmp 0) r:=fun r n cap hv=>⟨e1,rows,v,by simp [AP,get],by simp [RP],n,cap,hv⟩
    have hp:=h1.putO (d:=d) (e:=e1) (rows:=rows) (v:=v) (hd d rfl) hrel ho (by
     intro r n cap hv
     obtain ⟨k1,k2⟩:=h4 r n cap (.inr ⟨_,hO r n cap hv⟩) ⟨rows,e1,rfl⟩ hv
     exact ⟨k1,fun p _=>k2 p⟩)
    refine hg.1 _ _ _ _ hq hp.1 ⟨h2.tr,fun r hr=>?_,h2.φ,by rw [put_H];exact h2.H,(Jty1 _ _ _).trans h2.df⟩
    rcases hp.2 r hr with h | ⟨n,cap,hv⟩
    ·exact h2.mine r h
    ·rcases hmine r (.inr ⟨_,hO r n cap hv⟩) with h | h
     ·rcases hmine0 r h with ⟨b',_,h'⟩ | ⟨b',_,j,h'⟩
      ·exact .inl (.inl ⟨b',h'⟩)
      ·exact .inl (.inr ⟨_,h'⟩)
     ·exact .inr h
  ·have hno':NotOwn y:=fun e1 rows h=>hown ⟨e1,rows,ren_own (by rw [hy,h])⟩
   have hview:∀ org e1 rows,y≠.view org e1 rows:=by
    intro org e1 rows h
    subst h
    cases x<;>simp only [AV.ren] at hy<;>first
     | (cases hy;done)
     | (split at hy<;>cases hy)
   have hp:=h1.put (P:=P) (dst:=dst) hd (x:=y) hrel (fun org e1 rows h=>absurd h (hview org e1 rows)) hno'
   exact hg.1 _ _ _ _ hq hp.1 (h2.trans (Step.same hp.2 (put_H _ _ _)))
 | pan x=>
  simp only [AOut.val] at hy hrel hq
  exact hg.2 y v _ _ a w' hq h1 hrel h2
theorem Jt1f(hs:Sim N st g a w){q:Bool}{f:Nat}{as:List AV}{vs:Array Value}{dst:Option Nat}{K:ASt→Prop}{QP:AV→ASt→Prop}{next:Act→World→Prop}{Q:Exit→Act→World→Prop}
  (hr:RelL g.F g.φ w as vs.toList) (hd:∀ d,dst=some d→d<N) (h:AWcall P q f as dst K QP st) (hg:GoesOn N st g a w K QP next Q):Calls P f vs w (Jt50 dst a next Q):=by
 rcases h with ⟨cargs,x,h1,h2,h3,h4⟩ | ⟨_,h | h⟩
 ·exact Jt4o hs hr hd ⟨cargs,h1,h2.mono fun o _ ho=>by subst ho;exact ⟨h3,h4⟩⟩ hg
 ·exact Jt4o hs hr hd h hg
 ·exact Jt3n hs hr hd h hg
theorem Jt3d(hs:Sim N st g a w){q:Bool}{o:Oper}{io:AO}{K:ASt→Prop}{QP:AV→ASt→Prop}{next:Act→World→Prop}{Q:Exit→Act→World→Prop}(hc:cOp P o.op=some io)
  (hd:∀ d,o.dst=some d→d<N) (hstore:∀ n x v,io=.store n x v→o.dst=none) (h:AWio P q io o.dst K QP st) (hg:GoesOn N st g a w K QP next Q):o.wp P a w next Q:=by
 have val:AWval io o.dst K st→o.wp P a w next Q:=fun h=>Jt4y hs hc hd h hg
 cases hop:o.op<;>simp only [hop,cOp] at hc<;>first | (cases hc;done) | skip
 case move y=>obtain ⟨z,hz,rfl⟩:=Jtcb hc;exact val h
 case assign y=>
  obtain ⟨z,hz,rfl⟩:=Jtcb hc
  cases z with
  | t i=>
   have hyi:y=.tmp i:=by
    unfold cOpd at hz;split at hz
    ·injection hz with hz;injection hz with hz;rw [hz]
    ·split at hz<;>cases hz
    ·cases hz
    ·cases hz
   subst hyi
   simp only [AWio] at h
   split at h
   ·rename_i e rows hi
    obtain ⟨_,d,hdst,hdi,hK⟩:=h
    exact Jt11 hs hop hi hdst hdi (hd d hdst) hK hg
   ·exact val h
  | c x=>exact val h
 case range t y=>
  split at hc
  ·rename_i hu
   obtain ⟨z,hz,rfl⟩:=Jtcb hc
   exact Jt4p hs hop hu hz hd h.2 hg
  ·rename_i k e hu
   split at hc
   ·obtain ⟨z,hz,rfl⟩:=Jtcb hc
    exact Jt3w hs hop hu hz hd h.2 hg
   ·cases hc
  ·cases hc
 case next y s=>
  split at hc
  ·rename_i hs1
   subst hs1
   obtain ⟨z,hz,rfl⟩:=Jtcb hc
   exact Jt3y hs hop hz hd h.2 hg
  ·rename_i hs1
   have hs2:s=false:=by simpa using hs1
   subst hs2
   obtain ⟨z,hz,rfl⟩:=Jtcb hc
   exact Jt3u hs hop hz hd h.2 hg
 case entry y=>obtain ⟨z,hz,rfl⟩:=Jtcb hc;exact Jt3o hs hop hz hd h.2 hg
 case makeMap t rv=>
  cases rv with
  | some _=>cases hc
  | none=>
   simp only at hc
   split at hc
   ·split at hc
    ·injection hc with hc;subst hc
     exact Jt3q hs hop hd h.2 hg
    ·cases hc
   ·cases hc
 case mapUpdate t m k v=>
  split at hc
  ·rename_i hu hm hk hv
   split at hc
   ·rename_i hok
    injection hc with hc;subst hc
    exact Jt3x hs hop hu hok hm hk hv h.2 hg
   ·cases hc
  ·cases hc
 case lookup t m k ok=>
  cases ok with
  | true=>cases hc
  | false=>
   simp only at hc
   split at hc
   ·rename_i hu
    split at hc
    ·rename_i hok
     obtain ⟨z1,z2,h1,h2,rfl⟩:=Jtcc hc
     exact Jt3p hs hop hu hok h1 h2 hd h.2 hg
    ·cases hc
   ·cases hc
 case pick c p q=>split at hc<;>first | (cases hc;done) | (injection hc with hc;subst hc;exact val h)
 case alloc t=>
  split at hc
  ·rename_i z hz
   injection hc with hc;subst hc
   obtain ⟨k,hk,hK⟩:=h
   exact Jtp hs hop hz hd hk hK hg
  ·cases hc
 case box t y=>
  obtain ⟨z,hz,rfl⟩:=Jtcb hc
  obtain ⟨_,k,hk,hK⟩:=h
  exact Jt13 hs hop hz hd hk hK hg
 case build t ps=>
  split at hc
  ·split at hc
   ·injection hc with hc;subst hc;exact val h
   ·cases hc
  ·cases hc
 case buildSlice t n ps=>
  split at hc
  ·rename_i e hu
   split at hc
   ·rename_i m z qs hn hz hq
    split at hc
    ·cases hc
    ·rename_i hps
     injection hc with hc;subst hc
     simp only [AWio] at h
     split at h
     ·rename_i hn0
      subst hn0
      exact Jt14 hs hop hu hn hz hq hd (by simpa using hps) h hg
     ·obtain ⟨k1,k2,k3,rows,k4,k5⟩:=h
      exact Jt15 hs hop hu hn hz hq hd k1 k2 k3 k4 k5 hg
   ·cases hc
  ·cases hc
 case load t y=>
  split at hc
  ·obtain ⟨z,hz,rfl⟩:=Jtcb hc;exact val h
  ·cases hc
 case store t y z=>
  split at hc
  ·rename_i n hn
   obtain ⟨z1,z2,h1,h2,rfl⟩:=Jtcc hc
   exact Jt4r hs hop hn h1 h2 (hstore _ _ _ rfl) h.2 hg
  ·cases hc
 case nilCheck y=>obtain ⟨z,hz,rfl⟩:=Jtcb hc;exact val h
 case binOp op t y z u=>
  split at hc
  ·rename_i e _ hu
   split at hc
   ·obtain ⟨z1,h1,rfl⟩:=Jtcb hc;exact Jt3l (neg:=false) hs hop hu h1 hd h.2 hg
   ·cases hc
  ·rename_i e _ hu
   split at hc
   ·obtain ⟨z1,h1,rfl⟩:=Jtcb hc;exact Jt3l (neg:=true) hs hop hu h1 hd h.2 hg
   ·cases hc
  ·split at hc
   ·obtain ⟨z1,z2,h1,h2,rfl⟩:=Jtcc hc;exact val h
   ·cases hc
  ·split at hc
   ·obtain ⟨z1,z2,h1,h2,rfl⟩:=Jtcc hc;exact val h
   ·cases hc
  ·split at hc
   ·obtain ⟨z1,h1,rfl⟩:=Jtcb hc;exact val h
   ·cases hc
  ·split at hc
   ·obtain ⟨z1,h1,rfl⟩:=Jtcb hc;exact val h
   ·cases hc
  ·obtain ⟨z1,z2,h1,h2,rfl⟩:=Jtcc hc;exact val h
  ·obtain ⟨z1,z2,h1,h2,rfl⟩:=Jtcc hc;exact val h
  ·obtain ⟨z1,z2,h1,h2,rfl⟩:=Jtcc hc;exact val h
  ·obtain ⟨z1,z2,h1,h2,rfl⟩:=Jtcc hc;exact val h
  ·cases hc
 case unOp op t y=>obtain ⟨z,hz,rfl⟩:=Jtcb hc;exact val h
 case convert s t y=>
  split at hc
  ·obtain ⟨z,hz,rfl⟩:=Jtcb hc;exact val h
  ·obtain ⟨z,hz,rfl⟩:=Jtcb hc;exact val h
  ·split at hc
   ·obtain ⟨z,hz,rfl⟩:=Jtcb hc;exact val h
   ·obtain ⟨z,hz,rfl⟩:=Jtcb hc;exact val h
   ·cases hc
  ·cases hc
 case fieldAddr s y f=>
  split at hc
  ·split at hc
   ·split at hc
    ·cases hc
    ·obtain ⟨z,hz,rfl⟩:=Jtcb hc;exact val h
   ·cases hc
  ·cases hc
 case field s y f=>
  split at hc
  ·split at hc
   ·obtain ⟨z,hz,rfl⟩:=Jtcb hc;exact val h
   ·cases hc
  ·cases hc
 case indexAddr t y i=>
  split at hc
  ·split at hc
   ·obtain ⟨z1,z2,h1,h2,rfl⟩:=Jtcc hc;exact val h
   ·cases hc
  ·split at hc
   ·obtain ⟨z1,z2,h1,h2,rfl⟩:=Jtcc hc;exact val h
   ·cases hc
  ·cases hc
 case index t y i=>
  split at hc
  ·split at hc
   ·obtain ⟨z1,z2,h1,h2,rfl⟩:=Jtcc hc;exact val h
   ·cases hc
  ·obtain ⟨z1,z2,h1,h2,rfl⟩:=Jtcc hc;exact val h
  ·cases hc
 case slice t y lo hi mx=>
  cases mx with
  | some m=>
   change (if isZ hi=true∧isZ (some m)=true∧(lo=none∨isZ lo=true) then _ else none)=some io at hc
   split at hc
   ·split at hc
    ·split at hc
     ·obtain ⟨z,hz,rfl⟩:=Jtcb hc;exact val h
     ·cases hc
    ·cases hc
   ·cases hc
  | none=>
   simp only at hc
   split at hc
   ·split at hc
    ·injection hc with hc;subst hc;exact val h
    ·cases hc
   ·injection hc with hc;subst hc;exact val h
   ·cases hc
 case extract y i=>obtain ⟨z,hz,rfl⟩:=Jtcb hc;exact val h
 case makeFunc f p q=>
  split at hc
  ·injection hc with hc;subst hc;exact val h
  ·cases hc
 case makeSlice t l c=>
  split at hc
  ·rename_i e hu
   split at hc
   ·rename_i n b z hn hb hz
    obtain ⟨z1,z2,h1,h2,rfl⟩:=Jtcc hc
    exact Jt3s hs hop hu hn hb hz h1 h2 hd h.2 hg
   ·rename_i n b hn hb hz0
    split at hc
    ·rename_i z hz
     obtain ⟨z1,z2,h1,h2,rfl⟩:=Jtcc hc
     exact Jt3r hs hop hu hn hb hz h1 h2 hd h.2 hg
    ·cases hc
   ·cases hc
  ·cases hc
 case typeAssert y xt t ok=>
  split at hc
  ·split at hc
   ·cases hc
   ·obtain ⟨z,hz,rfl⟩:=Jtcb hc;exact val h
   ·cases hc
  ·cases hc
 case panic y=>
  obtain ⟨z,hz,rfl⟩:=Jtcb hc
  obtain ⟨_,t,x,h1,h2⟩:=h
  exact Jt4n hs hop hz h1 h2 hg
 case makeInterface t y=>
  split at hc
  ·cases hc
  ·obtain ⟨z,hz,rfl⟩:=Jtcb hc;exact val h
  ·cases hc
 case call c=>
  unfold cCall at hc
  split at hc
  ·rename_i f hcal
   split at hc
   ·rename_i as hargs
    split at hc
    ·rename_i hok
     injection hc with hc;subst hc
     obtain ⟨vs,hvs,hcall⟩:=h
     obtain ⟨i1,i2⟩:=Jtff hs hargs hvs
     have hr:RelL g.F g.φ w vs (c.args.map a.eval).toList:=⟨by simp [←i1],fun j x u hx hu=>i2 j x u hx (by simpa using hu)⟩
     refine Jt1l7 (f:=f) (args:=c.args.map a.eval) ?_ (Jt1f hs hr hd hcall hg)
     unfold execOp
     have hrc:=Jt178 (P:=P) (w:=w) (f:=f) (args:=c.args.map a.eval) hok
     simp [hop,resolve,hcal,Act.eval,Deferred.ofValue,invoke]
     simpa using hrc
    ·cases hc
   ·cases hc
  ·rename_i x hnf hcal
   split at hc
   ·rename_i y as hy hargs
    injection hc with hc;subst hc
    obtain ⟨f,ps,qs,cs,hfv,hok,hvs,hcall⟩:=h
    obtain ⟨i1,i2⟩:=Jtff hs hargs hvs
    obtain ⟨us,zs,e1,l1,l2,r1,r2⟩:=(Jtfd hs hy hfv).1.fn_inv
    have i1':c.args.size=cs.length:=by rw [←i1];simp
    have hr:RelL g.F g.φ w (ps++cs++qs) ((⟨us⟩:Array Value)++c.args.map a.eval++⟨zs⟩).toList:=by
     refine ⟨by simp [l1,l2,←i1],fun j x' u hx hu=>?_⟩
     simp only [Array.toList_append,Array.toList_map] at hu
     by_cases hj1:j<ps.length
     ·rw [List.append_assoc,lgA hj1] at hx
      rw [List.append_assoc,lgA (by omega)] at hu
      exact r1 j x' u hx hu
     ·by_cases hj2:j<ps.length+cs.length
      ·rw [List.append_assoc,List.getElem?_append_right (by omega),lgA (by omega)] at hx
       rw [List.append_assoc,List.getElem?_append_right (by omega),lgA (by simp;omega),l1] at hu
       exact i2 _ x' u hx hu
      ·rw [List.getElem?_append_right (by simp;omega)] at hx
       rw [List.getElem?_append_right (by simp;omega)] at hu
       simp only [List.length_append,List.length_map,l1,i1] at hx hu
       exact r2 _ x' u hx hu
    refine Jt1l7 (f:=f) (args:=(⟨us⟩:Array Value)++c.args.map a.eval++⟨zs⟩) ?_ (Jt1f hs hr hd hcall hg)
    unfold execOp
    have hrc:=Jt178 (P:=P) (w:=w) (f:=f) (args:=(⟨us⟩:Array Value)++c.args.map a.eval++⟨zs⟩) hok
    simp [hop,resolve,hcal,e1,Deferred.ofValue,invoke]
    simpa using hrc
   ·cases hc
  ·rename_i hcal
   split at hc
   ·rename_i x t hargs hts
    split at hc
    ·obtain ⟨z,hz,rfl⟩:=Jtcb hc;exact val h
    ·obtain ⟨z,hz,rfl⟩:=Jtcb hc;exact val h
    ·injection hc with hc;subst hc;exact val h
    ·rename_i hu
     split at hc
     ·obtain ⟨z,hz,rfl⟩:=Jtcb hc
      exact Jt3t hs hop hcal hargs hts hu hz hd h.2 hg
     ·cases hc
    ·cases hc
   ·cases hc
  ·split at hc
   ·obtain ⟨z1,z2,h1,h2,rfl⟩:=Jtcc hc;exact val h
   ·cases hc
  ·split at hc
   ·obtain ⟨z1,z2,h1,h2,rfl⟩:=Jtcc hc;exact val h
   ·cases hc
  ·rename_i hcal
   split at hc
   ·rename_i x t hargs hts
    split at hc
    ·rename_i e hu
     split at hc
     ·rename_i n z hn hz
      obtain ⟨z1,h1,rfl⟩:=Jtcb hc
      exact Jt1g hs hop hcal hargs hts hu hn hz h1 hd h.2 hg
     ·cases hc
    ·cases hc
   ·cases hc
  ·rename_i hcal
   split at hc
   ·rename_i x y t u hargs hts
    split at hc
    ·rename_i htu
     subst htu
     split at hc
     ·rename_i e hu
      split at hc
      ·rename_i n hn
       obtain ⟨z1,z2,h1,h2,rfl⟩:=Jtcc hc
       exact Jt1h hs hop hcal hargs hts hu hn h1 h2 hd h.2 hg
      ·cases hc
     ·cases hc
    ·cases hc
   ·cases hc
  ·rename_i hcal
   split at hc
   ·rename_i x y t u hargs hts
    split at hc
    ·rename_i htu
     subst htu
     split at hc
     ·rename_i e hu
      split at hc
      ·rename_i n b z hn hb hz
       split at hc
       ·rename_i hzl
        obtain ⟨z1,z2,h1,h2,rfl⟩:=Jtcc hc
        simp only [AWio] at h
        split at h
        ·rename_i hx
         rcases h with h | ⟨_,h⟩
         ·exact Jtr hs hop hcal hargs hts hu hn hb hz hzl h1 h2 hd (.inr hx) h hg
         ·exact Jtt hs hop hcal hargs hts hu hn hb hz hzl h1 h2 hd (.inr hx) h hg
        ·rename_i hx
         rcases h with ⟨_,h⟩ | ⟨_,h | h⟩
         ·exact Jtr hs hop hcal hargs hts hu hn hb hz hzl h1 h2 hd (.inl hx) h hg
         ·exact Jtv hs hop hcal hargs hts hu hn hb hz hzl h1 h2 hd h hg
         ·exact Jtt hs hop hcal hargs hts hu hn hb hz hzl h1 h2 hd (.inl hx) h hg
        ·exact Jtz hs hop hcal hargs hts hu hn hb hz hzl h1 h2 hd h.2 hg
        ·exact Jtx hs hop hcal hargs hts hu hn hb hz hzl h1 h2 hd h.2 hg
        ·exact Jtv hs hop hcal hargs hts hu hn hb hz hzl h1 h2 hd h.2 hg
       ·cases hc
      ·cases hc
     ·cases hc
    ·cases hc
   ·cases hc
  ·cases hc
end
section
variable {P:Program} {N:Nat} {st:ASt} {g:Gh} {a:Act} {w:World}
theorem Jta1{op:Op}{n b:Nat}{x' y':Opd}(hc:cOp P op=some (.app n b x' y')):∃ c x y t e z,op=.call c∧c.callee=.builtin .append∧c.args.toList=[x,y]∧c.argTypes.toList=[t,t]∧P.underlying t=some (.slice e)∧
  szOf P e=some n∧byOf P e=some b∧zeroOf P e=some z∧z.length=n∧cOpd x=some x'∧cOpd y=some y':=by
 cases hop:op<;>rw [hop] at hc<;>simp only [cOp] at hc
 case call c=>
  unfold cCall at hc
  split at hc
  case h_8=>
   rename_i hcal
   split at hc
   ·rename_i x y t u hargs hts
    split at hc
    ·rename_i htu
     subst htu
     split at hc
     ·rename_i e hu
      split at hc
      ·rename_i n' b' z hn hb hz
       split at hc
       ·rename_i hzl
        obtain ⟨z1,z2,h1,h2,h3⟩:=Jtcc hc
        injection h3 with q1 q2 q3 q4
        subst q1;subst q2;subst q3;subst q4
        exact ⟨c,x,y,t,e,z,rfl,hcal,hargs,hts,hu,hn,hb,hz,hzl,h1,h2⟩
       ·cases hc
      ·cases hc
     ·cases hc
    ·cases hc
   ·cases hc
  all_goals (exfalso;repeat' (first | (cases hc;done) | contradiction | (obtain ⟨_,_,h⟩:=Jtcb hc;cases h;done) | (obtain ⟨_,_,_,_,h⟩:=Jtcc hc;cases h;done) | split at hc))
 all_goals (exfalso;repeat' (first | (cases hc;done) | contradiction | (obtain ⟨_,_,h⟩:=Jtcb hc;cases h;done) | (obtain ⟨_,_,_,_,h⟩:=Jtcc hc;cases h;done) | split at hc))
theorem Jta2{op:Op}{i:Nat}(hc:cOp P op=some (.asg (.t i))):op=.assign (.tmp i):=by
 cases hop:op<;>rw [hop] at hc<;>simp only [cOp] at hc
 case assign y=>
  obtain ⟨z,hz,h⟩:=Jtcb hc
  injection h with h;subst h
  unfold cOpd at hz;split at hz
  ·injection hz with hz;injection hz with hz;rw [hz]
  ·split at hz<;>cases hz
  ·cases hz
  ·cases hz
 case call c=>
  exfalso;unfold cCall at hc
  repeat' (first | (cases hc;done) | contradiction | (obtain ⟨_,_,h⟩:=Jtcb hc;cases h;done) | (obtain ⟨_,_,_,_,h⟩:=Jtcc hc;cases h;done) | split at hc)
 all_goals (exfalso;repeat' (first | (cases hc;done) | contradiction | (obtain ⟨_,_,h⟩:=Jtcb hc;cases h;done) | (obtain ⟨_,_,_,_,h⟩:=Jtcc hc;cases h;done) | split at hc))
theorem Jt3j(hs:Sim N st g a w){o:Oper}{n b a0 i0:Nat}{y':Opd}{K:ASt→Prop}{QP:AV→ASt→Prop}{next:Act→World→Prop}{Q:Exit→Act→World→Prop}(hc:cOp P o.op=some (.app n b (.t a0) y')) (hd:∀ d,o.dst=some d→d<N)
  (h:AWio P true (.appq n b (.t a0) y' i0) o.dst K QP st) (hg:GoesOn N st g a w K QP next Q):o.wp P a w next Q:=by
 obtain ⟨c,x,y,t,e,z,hop,hcal,hargs,hts,hu,hn,hb,hz,hzl,h1,h2⟩:=Jta1 hc
 have h:=h.2
 simp only at h
 split at h
 ·rename_i i' e' rows ha
  obtain ⟨rfl,rfl,h⟩:=h
  exact Jt10 hs hop hcal hargs hts hu hn hb hz hzl h1 h2 hd ha h hg
 ·rename_i ha
  exact Jtr hs hop hcal hargs hts hu hn hb hz hzl h1 h2 hd (.inl (by simp [evr,ev,ha,AV.erase])) h hg
 ·rename_i ha
  exact Jtr hs hop hcal hargs hts hu hn hb hz hzl h1 h2 hd (.inr (by simp [evr,ev,ha,AV.erase])) h hg
 ·exact h.elim
theorem Jta5{op:Op}{n:Nat}{x' v':Opd}(hc:cOp P op=some (.store n x' v')):∃ t x v,op=.store t x v∧szOf P t=some n∧cOpd x=some x'∧cOpd v=some v':=by
 cases hop:op<;>rw [hop] at hc<;>simp only [cOp] at hc
 case store t x v=>
  split at hc
  ·rename_i m hm
   obtain ⟨z1,z2,h1,h2,h3⟩:=Jtcc hc
   injection h3 with q1 q2 q3
   subst q1;subst q2;subst q3
   exact ⟨t,x,v,rfl,hm,h1,h2⟩
  ·cases hc
 case call c=>
  exfalso;unfold cCall at hc
  repeat' (first | (cases hc;done) | contradiction | (obtain ⟨_,_,h⟩:=Jtcb hc;cases h;done) | (obtain ⟨_,_,_,_,h⟩:=Jtcc hc;cases h;done) | split at hc)
 all_goals (exfalso;repeat' (first | (cases hc;done) | contradiction | (obtain ⟨_,_,h⟩:=Jtcb hc;cases h;done) | (obtain ⟨_,_,_,_,h⟩:=Jtcc hc;cases h;done) | split at hc))
theorem Jta4{op:Op}{n:Nat}{x' v':Opd}{ls:List (Nat × Nat)} (hc:cOp P op=some (.storeq n x' v' ls)):False:=by
 cases hop:op<;>rw [hop] at hc<;>simp only [cOp] at hc
 case call c=>
  unfold cCall at hc
  repeat' (first | (cases hc;done) | contradiction | (obtain ⟨_,_,h⟩:=Jtcb hc;cases h;done) | (obtain ⟨_,_,_,_,h⟩:=Jtcc hc;cases h;done) | split at hc)
 all_goals (repeat' (first | (cases hc;done) | contradiction | (obtain ⟨_,_,h⟩:=Jtcb hc;cases h;done) | (obtain ⟨_,_,_,_,h⟩:=Jtcc hc;cases h;done) | split at hc))
def IOp.strip(o:IOp):IOp:=match o.io with
 | .storeq n x v _=>{ o with io:=.storeq n x v []}
 | _=>o
def Turned(io0 io:IOp):Prop:=io={ io0 with q:=io.q}∨(∃ n x v ls q0,io0=⟨none,.store n x v,none,q0⟩∧io=⟨none,.storeq n x v ls,none,true⟩)∨∃ d e b a y i q0,io0=⟨some d,.app e b (.t a) y,none,q0⟩∧io=⟨some d,.appq e b (.t a) y i,none,true⟩
theorem Turned.strip{P:Program}{N:Nat}{ops:Array Oper}{o:Oper}{io0 io:IOp}(hc:cOper P N ops o=some io0)(h:Turned io0 io):Turned io0 io.strip:=by
 rcases h with h | ⟨n,x,v,ls,q0,e1,e2⟩ | ⟨d,e,b,a,y,i,q0,e1,e2⟩
 ·have:io.strip=io:=by
   obtain ⟨d,io1,gd,q⟩:=io
   cases io1<;>first|rfl | skip
   rename_i n x v ls
   exfalso
   have hio:io0.io=.storeq n x v ls:=by rw [show io0.io=({ io0 with q:=q}:IOp).io from rfl,←h]
   unfold cOper at hc
   split at hc
   ·cases hc
   ·rename_i io2 hio2
    have:io2=.storeq n x v ls:=by
     split at hc
     ·split at hc
      ·injection hc with hc;rw [←hc] at hio;exact hio
      ·split at hc
       ·injection hc with hc;rw [←hc] at hio;exact hio
       ·cases hc
     ·cases hc
    subst this
    exact Jta4 hio2
  rw [this];exact .inl h
 ·exact .inr (.inl ⟨n,x,v,[],q0,e1,by rw [e2];rfl⟩)
 ·exact .inr (.inr ⟨d,e,b,a,y,i,q0,e1,by rw [e2];rfl⟩)
end
section
variable {P:Program} {N:Nat} {st:ASt} {g:Gh} {a:Act} {w:World}
theorem GoesOn.step{K:ASt→Prop}{QP:AV→ASt→Prop}{next:Act→World→Prop}{Q:Exit→Act→World→Prop}{st':ASt}{g':Gh}{a':Act}{w':World}(h:GoesOn N st g a w K QP next Q)
  (hs:Step st g a w st' g' a' w'):GoesOn N st' g' a' w' K QP next Q:=
 ⟨fun _ _ _ _ hK hsim hst=>h.1 _ _ _ _ hK hsim (hs.trans hst),fun _ _ _ _ _ _ hq hsim hr hst=>h.2 _ _ _ _ _ _ hq hsim hr (hs.trans hst)⟩
theorem Jta6{ops:Array Oper}{o:Oper}{io:IOp}(h:cOper P N ops o=some io):cOp P o.op=some io.io∧io.dst=o.dst∧(∀ d,o.dst=some d→d<N)∧(∀ n x v,io.io=.store n x v→o.dst=none)∧
  ((o.guard=none∧io.guard=none)∨∃ j want t,o.guard=some (j,want)∧(ops[j]?).bind (·.dst)=some t∧io.guard=some (t,want))∧io.q=false:=by
 unfold cOper at h
 split at h
 ·cases h
 ·rename_i x hx
  split at h
  ·rename_i hcond
   unfold dstOk at hcond
   rw [Bool.and_eq_true] at hcond
   have hd:∀ d,o.dst=some d→d<N:=by
    intro d hd
    have:=hcond.1
    rw [hd] at this
    simpa using this
   have hst:∀ n y v,x=.store n y v→o.dst=none:=by
    intro n y v hxs
    have:=hcond.2
    subst hxs
    simpa using this
   split at h
   ·rename_i hgd
    injection h with h;subst h
    exact ⟨hx,rfl,hd,hst,.inl ⟨hgd,rfl⟩,rfl⟩
   ·rename_i j want hgd
    split at h
    ·rename_i t ht
     injection h with h;subst h
     exact ⟨hx,rfl,hd,hst,.inr ⟨j,want,t,hgd,ht,rfl⟩,rfl⟩
    ·cases h
  ·cases h
theorem getD_some{a:Act}{t:Nat}{b:Bool}(h:a.tmps.getD t undef=.bool b):a.tmps[t]?=some (.bool b):=by
 by_cases ht:t<a.tmps.size
 ·rw [Array.getD_eq_getD_getElem?] at h
  rw [Array.getElem?_eq_getElem ht] at h ⊢
  simpa using h
 ·rw [Array.getD_eq_getD_getElem?,Array.getElem?_eq_none (by omega)] at h
  simp [undef] at h
theorem Jt4e(hs:Sim N st g a w){ops:Array Oper}{i:Nat}{o:Oper}{io io':IOp}{K:ASt→Prop}{QP:AV→ASt→Prop}{next:Act→World→Prop}{Q:Exit→Act→World→Prop}(hi:ops[i]?=some o)
  (hc:cOper P N ops o=some io) (e0:io'.dst=io.dst) (e3:io'.guard=io.guard) (hio:AWio P io'.q io'.io o.dst K QP st→o.wp P a w next Q) (h:AWop P io' K QP st) (hg:GoesOn N st g a w K QP next Q):wpOp P ops Q i next a w:=by
 obtain ⟨h1,h2,h3,h4,h5,_⟩:=Jta6 hc
 have e1:io'.dst=o.dst:=by rw [e0];exact h2
 unfold AWop at h
 replace h:=h.2
 unfold wpOp
 simp only [hi]
 rcases h5 with ⟨k1,k2⟩ | ⟨j,want,t,k1,k2,k3⟩
 ·rw [e3,k2] at h
  simp only at h
  have hw:Region.wanted o (yielded ops a.tmps)=true:=by unfold Region.wanted;rw [k1]
  rw [if_pos hw]
  rw [e1] at h
  exact .inl (hio h)
 ·rw [e3,k3] at h
  simp only at h
  split at h
  ·rename_i b hb
   have hv:a.tmps.getD t undef=.bool b:=(hs.env t _ hb).bool_inv
   have hy:yielded ops a.tmps j=some b:=by
    unfold yielded
    rw [k2]
    simp only [Option.bind_some,getD_some hv]
   have hw:Region.wanted o (yielded ops a.tmps)=(some b==some want):=by unfold Region.wanted;rw [k1];simp only [hy]
   by_cases hbw:b=want
   ·rw [if_pos (by rw [hw,hbw];simp)]
    have:=h.1 hbw
    rw [e1] at this
    exact .inl (hio this)
   ·rw [if_neg (by rw [hw];simp [hbw])]
    have hK:=h.2 hbw
    rw [e1] at hK
    have hp:=hs.put (P:=P) (dst:=o.dst) h3 (x:=.tup []) (v:=undef) (.tup [] [] rfl (fun j x u h=>by simp at h)) (fun org e rows h=>by cases h) (fun e rows h=>by cases h)
    exact hg.1 _ _ _ _ hK hp.1 (Step.same hp.2 (put_H _ _ _))
  ·rename_i hb
   have hv:a.tmps.getD t undef=.tuple #[]:=by
    obtain ⟨vs,e1,e2,_⟩:=Rel.tup_inv (hs.env t _ hb)
    have e3:vs=[]:=List.eq_nil_of_length_eq_zero (by simpa using e2)
    rw [e1,e3]
   have hy:yielded ops a.tmps j=none:=by
    unfold yielded
    rw [k2]
    simp only [Option.bind_some]
    cases hg:a.tmps[t]? with
    | none=>rfl
    | some u=>
     have:u=.tuple #[]:=by rw [Array.getD_eq_getD_getElem?,hg] at hv;simpa using hv
     rw [this]
   have hw:Region.wanted o (yielded ops a.tmps)=false:=by unfold Region.wanted;rw [k1];simp only [hy];rfl
   rw [hw]
   simp only [Bool.false_eq_true,if_false]
   rw [e1] at h
   have hp:=hs.put (P:=P) (dst:=o.dst) h3 (x:=.tup []) (v:=undef) (.tup [] [] rfl (fun j x u h=>by simp at h)) (fun org e rows h=>by cases h) (fun e rows h=>by cases h)
   exact hg.1 _ _ _ _ h hp.1 (Step.same hp.2 (put_H _ _ _))
  ·exact h.elim
theorem Jt4c(hs:Sim N st g a w){ops:Array Oper}{i:Nat}{o:Oper}{io io':IOp}{K:ASt→Prop}{QP:AV→ASt→Prop}{next:Act→World→Prop}{Q:Exit→Act→World→Prop}(hi:ops[i]?=some o)
  (hc:cOper P N ops o=some io) (hq:io'={ io with q:=io'.q}) (h:AWop P io' K QP st) (hg:GoesOn N st g a w K QP next Q):wpOp P ops Q i next a w:=by
 obtain ⟨h1,h2,h3,h4,h5,_⟩:=Jta6 hc
 have e2:io'.io=io.io:=by rw [hq]
 exact Jt4e hs hi hc (by rw [hq]) (by rw [hq]) (fun h=>Jt3d hs h1 h3 h4 (by rw [e2] at h;exact h) hg) h hg
theorem Jt4u(hs:Sim N st g a w){q:Bool}{o:Oper}{i:Nat}{K:ASt→Prop}{QP:AV→ASt→Prop}{next:Act→World→Prop}{Q:Exit→Act→World→Prop}(hc:cOp P o.op=some (.asg (.t i)))
  (hd:∀ d,o.dst=some d→d<N) (h:AWio P q (.take (.t i)) o.dst K QP st) (hg:GoesOn N st g a w K QP next Q):o.wp P a w next Q:=by
 have hop:o.op=.assign (.tmp i):=Jta2 hc
 simp only [AWio] at h
 split at h
 ·rename_i e rows hi
  obtain ⟨_,d,hdst,hdi,hK⟩:=h
  exact Jt11 hs hop hi hdst hdi (hd d hdst) hK hg
 ·rename_i j e rows hi
  obtain ⟨_,d,hdst,hdj,hK⟩:=h
  obtain ⟨v1,v2⟩:=hs.view i _ _ _ hi
  exact Jt12 hs hop v1 (by simpa [RP] using v2.symm) hdst hdj (hd d hdst) hK hg
 ·exact Jt4y hs hc hd h hg
theorem Jt4f(hs:Sim N st g a w){ops:Array Oper}{i:Nat}{o:Oper}{io:IOp}{K:ASt→Prop}{QP:AV→ASt→Prop}{next:Act→World→Prop}{Q:Exit→Act→World→Prop}(hi:ops[i]?=some o)
  (hc:cOper P N ops o=some io) (h:AWop P (takeOp io) K QP st) (hg:GoesOn N st g a w K QP next Q):wpOp P ops Q i next a w:=by
 unfold takeOp at h
 split at h
 ·rename_i t ht
  obtain ⟨h1,h2,h3,h4,h5,_⟩:=Jta6 hc
  rw [ht] at h1
  exact Jt4e (io':={ io with io:=.take (.t t)}) hs hi hc rfl rfl (fun h=>Jt4u (q:=io.q) hs h1 h3 h hg) h hg
 ·exact Jt4c hs hi hc rfl h hg
theorem Jt4d(hs:Sim N st g a w){ops:Array Oper}{i:Nat}{o:Oper}{io io':IOp}{K:ASt→Prop}{QP:AV→ASt→Prop}{next:Act→World→Prop}{Q:Exit→Act→World→Prop}(hi:ops[i]?=some o)
  (hc:cOper P N ops o=some io) (hq:Turned io io') (h:AWop P io' K QP st) (hg:GoesOn N st g a w K QP next Q):wpOp P ops Q i next a w:=by
 rcases hq with hq | ⟨n,x,v,ls,q0,e1,e2⟩ | ⟨d,e,b,a0,y,i0,q0,e1,e2⟩
 ·exact Jt4c hs hi hc hq h hg
 ·obtain ⟨h1,h2,h3,h4,h5,_⟩:=Jta6 hc
  subst e1;subst e2
  have h:=h.2.2
  simp only at h1 h2
  obtain ⟨t,x0,v0,hop,hn,hx,hv⟩:=Jta5 h1
  unfold wpOp
  simp only [hi]
  rcases h5 with ⟨k1,k2⟩ | ⟨j,want,t,k1,k2,k3⟩
  ·have hw:Region.wanted o (yielded ops a.tmps)=true:=by unfold Region.wanted;rw [k1]
   rw [if_pos hw]
   exact .inl (Jt4t hs hop hn hx hv h2.symm h hg)
  ·cases k3
 ·obtain ⟨h1,h2,h3,h4,h5,_⟩:=Jta6 hc
  subst e1;subst e2
  have h:=h.2
  simp only at h h1 h2
  unfold wpOp
  simp only [hi]
  rcases h5 with ⟨k1,k2⟩ | ⟨j,want,t,k1,k2,k3⟩
  ·have hw:Region.wanted o (yielded ops a.tmps)=true:=by unfold Region.wanted;rw [k1]
   rw [if_pos hw]
   refine .inl (Jt3j (i0:=i0) hs h1 h3 ?_ hg)
   rw [←h2];exact h
  ·cases k3
theorem Jt4l{ops:Array Oper}{K:ASt→Prop}{QP:AV→ASt→Prop}{Q:Exit→Act→World→Prop}:∀ (os:List Oper) (k:Nat) (ios:List IOp) (st:ASt) (g:Gh) (a:Act) (w:World),(∀ j,os[j]?=ops[k+j]?)→
  cOpers P N ops os=some ios→Sim N st g a w→AWops P QP ios K st→GoesOn N st g a w K QP (Q .normal) Q→wpOps P ops Q (List.range' k os.length) a w:=by
 intro os
 induction os with
 | nil=>
  intro k ios st g a w _ hc hs h hg
  simp only [cOpers] at hc
  injection hc with hc;subst hc
  exact hg.1 st g a w h hs ⟨Tr.refl _ _ _,fun r hr=>.inl hr,fun _ _ h=>h,Nat.le_refl _,rfl⟩
 | cons o os ih=>
  intro k ios st g a w hos hc hs h hg
  simp only [cOpers] at hc
  split at hc
  ·rename_i io ios' hio hios
   injection hc with hc;subst hc
   simp only [List.length_cons,List.range'_succ]
   rw [wpOps_cons]
   have hk:ops[k]?=some o:=by have:=hos 0;simpa using this.symm
   simp only [AWops] at h
   refine Jt4c (K:=AWops P QP ios' K) (next:=wpOps P ops Q (List.range' (k+1) os.length)) hs hk hio rfl h ⟨?_,fun x v st' g' a' w' hq hsim hr hst=>hg.2 x v st' g' a' w' hq hsim hr hst⟩
   intro st' g' a' w' hK hsim hst
   exact ih (k+1) ios' st' g' a' w' (fun j=>by have:=hos (j+1);simp only [List.getElem?_cons_succ] at this;rw [this];congr 1;omega) hios hsim hK (hg.step hst)
  ·cases hc
theorem Jt4m{ops:Array Oper}{K:ASt→Prop}{QP:AV→ASt→Prop}{Q:Exit→Act→World→Prop}:∀ (os:List Oper) (k:Nat) (ios:List IOp) (st:ASt) (g:Gh) (a:Act) (w:World),(∀ j,os[j]?=ops[k+j]?)→
  cOpers P N ops os=some ios→Sim N st g a w→AWops P QP (ios.map takeOp) K st→GoesOn N st g a w K QP (Q .normal) Q→wpOps P ops Q (List.range' k os.length) a w:=by
 intro os
 induction os with
 | nil=>
  intro k ios st g a w _ hc hs h hg
  simp only [cOpers] at hc
  injection hc with hc;subst hc
  exact hg.1 st g a w h hs ⟨Tr.refl _ _ _,fun r hr=>.inl hr,fun _ _ h=>h,Nat.le_refl _,rfl⟩
 | cons o os ih=>
  intro k ios st g a w hos hc hs h hg
  simp only [cOpers] at hc
  split at hc
  ·rename_i io ios' hio hios
   injection hc with hc;subst hc
   simp only [List.length_cons,List.range'_succ]
   rw [wpOps_cons]
   have hk:ops[k]?=some o:=by have:=hos 0;simpa using this.symm
   simp only [List.map_cons,AWops] at h
   refine Jt4f (K:=AWops P QP (ios'.map takeOp) K) (next:=wpOps P ops Q (List.range' (k+1) os.length)) hs hk hio h ⟨?_,fun x v st' g' a' w' hq hsim hr hst=>hg.2 x v st' g' a' w' hq hsim hr hst⟩
   intro st' g' a' w' hK hsim hst
   exact ih (k+1) ios' st' g' a' w' (fun j=>by have:=hos (j+1);simp only [List.getElem?_cons_succ] at this;rw [this];congr 1;omega) hios hsim hK (hg.step hst)
  ·cases hc
theorem Jtgr{ks:List Nat}:∀ (env:List (Nat × AV)) (t:Nat),get (kill ks env) t=if ks.contains t then none else get env t:=by
 intro env t
 induction env with
 | nil=>simp [kill,get]
 | cons p r ih=>
  obtain ⟨s,x⟩:=p
  simp only [kill]
  by_cases hs:ks.contains s
  ·rw [if_pos hs,ih]
   simp only [get]
   by_cases hst:s=t
   ·subst hst;rw [if_pos hs,if_pos hs]
   ·rw [if_neg hst]
  ·rw [if_neg hs]
   simp only [get]
   by_cases hst:s=t
   ·subst hst;rw [if_pos rfl,if_neg hs,if_pos rfl]
   ·rw [if_neg hst,if_neg hst,ih]
theorem Sim.kill(hs:Sim N st g a w)(ks:List Nat):Sim N ⟨Go.AE.unview (Go.AE.kill ks st.env),st.H⟩ g a w∧∀ r,Mine ⟨Go.AE.unview (Go.AE.kill ks st.env),st.H⟩ g a w r→Mine st g a w r:=by
 have hget:∀ t x,get (Go.AE.unview (Go.AE.kill ks st.env)) t=some x→∃ y,get st.env t=some y∧x=y.unview:=by
  intro t x h
  rw [Jtgt,omS] at h
  obtain ⟨y,hy,rfl⟩:=h
  rw [Jtgr] at hy
  split at hy
  ·cases hy
  ·exact ⟨y,hy,rfl⟩
 have hAP:∀ p e rows,AP ⟨Go.AE.unview (Go.AE.kill ks st.env),st.H⟩ p=some (.own e rows)→AP st p=some (.own e rows):=by
  intro p e rows h
  cases p with
  | tmp t=>
   obtain ⟨y,hy,he⟩:=hget t _ h
   have:=Jt1fj.1 he.symm
   subst this
   exact hy
  | cell b j=>exact h
 have hO:∀ p r,Owner ⟨Go.AE.unview (Go.AE.kill ks st.env),st.H⟩ g.φ a w p r→Owner st g.φ a w p r:=fun p r ⟨e,rows,v,h1,h2,h3⟩=>⟨e,rows,v,hAP p e rows h1,h2,h3⟩
 refine ⟨{ size:=hs.size,env:=?_,inj:=hs.inj,lt:=hs.lt,dom:=hs.dom,mem:=hs.mem,iter:=hs.iter,glob:=hs.glob,own:=?_,excl:=?_,apart:=?_,view:=?_},?_⟩
 ·intro t x h
  obtain ⟨y,hy,rfl⟩:=hget t x h
  rw [Jt1fh];exact hs.env t y hy
 ·exact fun p e rows v h=>hs.own p e rows v (hAP p e rows h)
 ·exact fun p p' r h h'=>hs.excl p p' r (hO p r h) (hO p' r h')
 ·exact fun p r b h=>hs.apart p r b (hO p r h)
 ·intro t org e rows h
  exact absurd h Jtu2
 ·rintro r (⟨b,hb⟩ | ⟨p,hp⟩)
  ·exact .inl ⟨b,hb⟩
  ·exact .inr ⟨p,hO p r hp⟩
open Classical in
noncomputable def Gh.cut(g:Gh)(n:Nat)(w:World):Gh:=
 ⟨fun b=>if b<n then g.φ b else none,fun r=>if ∃ b,n≤b∧g.φ b=some r then (match w.heap[r]? with | some (.cells c _ _)=>c.size | _=>0) else g.F r⟩
theorem WkV.notView{H:List Blk}{n:Nat}{x y:AV}(h:WkV H n x y):∀ org e rows,y≠.view org e rows:=by
 intro org e rows hy
 cases h with
 | refl _ h=>subst hy;simp [AV.ren] at h
 | erase _ h=>exact Jtu8 x org e rows hy
 | _=>cases hy
theorem WkT.own{H:List Blk}{n:Nat}{x:AV}{e:Nat}{rows:List (List D)} (h:WkT H n x (.own e rows)):x=.own e rows∨(x=.nils∧rows=[]):=by
 rcases h with h | ⟨rfl,e',h⟩
 ·generalize hy:AV.own e rows=y at h
  cases h with
  | refl _ h=>subst hy;exact .inl rfl
  | erase _ h=>exact absurd hy.symm (Jtu7 x e rows)
  | _=>cases hy
 ·injection h with _ h2;exact .inr ⟨rfl,h2⟩
theorem WkV.leaf{H:List Blk}{n:Nat}{x y:AV}(h:WkV H n x y)(hl:x.leaf=true):y.leaf=true:=by
 cases h with
 | refl _ h=>exact hl
 | erase _ h=>cases x<;>first|rfl|exact hl
 | agg=>exact hl
 | tup=>exact hl
 | _=>rfl
theorem Jt1em{F:Nat→Nat}{φ:Nat→Option Nat}{w:World}{y:AV}{x:D}{u:Value}(h:y.toD=some x)(hr:Rel F φ w y u):PRel F w x u:=by
 cases y<;>simp only [AV.toD] at h<;>first | (cases h;done) | (injection h with h;subst h)
 ·exact hr.d_inv
 ·rw [Rel.nils_inv hr];exact .nil _ _
 ·obtain ⟨a',rfl⟩:=Rel.nile_inv hr;exact .nil _ _
theorem WkV.rel(hs:Sim N st g a w){n:Nat}{x y:AV}(h:WkV st.H n x y):∀ v,Rel g.F g.φ w x.erase v→Rel (g.cut n w).F (g.cut n w).φ w y.erase v:=by
 have hst:Stab g.F w (g.cut n w).F w:=by
  refine ⟨fun r hr=>?_,fun r j u hj hu=>hu,fun _=>Nat.le_refl _⟩
  simp only [Gh.cut]
  split
  ·rename_i hb
   obtain ⟨b,_,hb⟩:=hb
   rw [(hs.lt b r hb).2.1];exact Nat.zero_le _
  ·exact Nat.le_refl _
 have hren:∀ (z:AV) (v:Value),z.ren (fun b=>if b<n then some b else none)=some z→Rel g.F g.φ w z v→Rel (g.cut n w).F (g.cut n w).φ w z v:=by
  intro z v hz hr
  have h1:Rel (g.cut n w).F g.φ w z v:=hr.stab hst (fun _ _ h=>h)
  refine h1.ren (ρ:=fun b=>if b<n then some b else none) (fun b b' r hb hr=>?_) z hz
  split at hb
  ·rename_i hbn
   injection hb with hb;subst hb
   simp only [Gh.cut];rw [if_pos hbn];exact hr
  ·cases hb
 induction h with
 | refl x h=>intro v hv;exact hren _ v (ren_erase h) hv
 | erase x h=>intro v hv;rw [Jtf7];exact hren _ v h hv
 | nild=>intro v hv;rw [Rel.nils_inv hv];exact .d _ _ (.nil _ _)
 | nile=>intro v hv;obtain ⟨a',rfl⟩:=Rel.nile_inv hv;exact .d _ _ (.nil _ _)
 | hsl0 b e=>intro v hv;obtain ⟨r,cap,_,rfl,_⟩:=Rel.hsl0_inv hv;exact .d _ _ (.nil _ _)
 | hsl b off e len cells rows hb hn hc hl he=>
  intro v hv
  obtain ⟨r,cap,A,hr,rfl,hcap,hA,_⟩:=hv.hsl_inv
  obtain ⟨c,te,h1,h2,h3,h4⟩:=hs.block hb hr
  by_cases hr0:rows=[]
  ·subst hr0
   simp at hl;subst hl
   exact .d _ _ (.nil _ _)
  ·have hlen0:len≠0:=by rw [←hl];exact fun h=>hr0 (List.eq_nil_of_length_eq_zero h)
   have hA2:=hA hlen0
   subst hA2
   have hfl:=Jtgb rows e he
   have hle:len*e≤cells.length-off:=by
    have:=congrArg List.length hc
    simp only [List.length_take,List.length_drop,List.length_map,hfl,hl] at this
    omega
   have hlec:((c.toList.drop off).take (len*e)).length=rows.length*e:=by
    rw [List.length_take,List.length_drop,hl]
    have:c.toList.length=c.size:=Array.length_toList
    omega
   rw [←hl]
   refine .d _ _ (.sl rows ⟨r,off,none⟩ cap e ((c.toList.drop off).take (len*e)) he hlec (by omega) ?_ ?_ ?_)
   ·intro j hj
    rw [hlec,hl] at hj
    simp only [Gh.cut]
    rw [if_pos ⟨b,hn,hr⟩,h1]
    simp only
    omega
   ·intro j u hu
    rw [List.getElem?_take] at hu
    split at hu
    ·rw [Addr.add_lit,h4]
     rw [List.getElem?_drop,Array.getElem?_toList] at hu;exact hu
    ·cases hu
   ·intro j x u hx hu
    have hj:j<len*e:=by have:=(lgS.1 hx).1;rw [hfl,hl] at this;exact this
    rw [List.getElem?_take,if_pos hj,List.getElem?_drop,Array.getElem?_toList] at hu
    have hcx:cells[off+j]?=some (.d x):=by
     have:((cells.drop off).take (len*e))[j]?=some (.d x):=by rw [hc,lgM,hx];rfl
     rw [List.getElem?_take,if_pos hj,List.getElem?_drop] at this
     exact this
    obtain ⟨_,u',hu',hrel⟩:=h3 _ _ hcx
    rw [hu] at hu';injection hu' with hu';subst hu'
    exact (hrel.d_inv).stab hst
 | hsle b off e len cells rows hb hn hc hl he=>
  intro v hv
  obtain ⟨r,cap,A,hr,rfl,hcap,hA,_⟩:=hv.hsl_inv
  obtain ⟨c,te,h1,h2,h3,h4⟩:=hs.block hb hr
  by_cases hr0:rows=[]
  ·subst hr0
   simp at hl;subst hl
   exact .d _ _ (.nil _ _)
  ·have hlen0:len≠0:=by rw [←hl];exact fun h=>hr0 (List.eq_nil_of_length_eq_zero h)
   have hA2:=hA hlen0
   subst hA2
   have hfl:=Jtgb rows e he
   have hle:len*e≤cells.length-off:=by
    have:=congrArg List.length hc
    simp only [List.length_map,List.length_take,List.length_drop,hfl,hl] at this
    omega
   have hlec:((c.toList.drop off).take (len*e)).length=rows.length*e:=by
    rw [List.length_take,List.length_drop,hl]
    have:c.toList.length=c.size:=Array.length_toList
    omega
   rw [←hl]
   refine .d _ _ (.sl rows ⟨r,off,none⟩ cap e ((c.toList.drop off).take (len*e)) he hlec (by omega) ?_ ?_ ?_)
   ·intro j hj
    rw [hlec,hl] at hj
    simp only [Gh.cut]
    rw [if_pos ⟨b,hn,hr⟩,h1]
    simp only
    omega
   ·intro j u hu
    rw [List.getElem?_take] at hu
    split at hu
    ·rw [Addr.add_lit,h4]
     rw [List.getElem?_drop,Array.getElem?_toList] at hu;exact hu
    ·cases hu
   ·intro j x u hx hu
    have hj:j<len*e:=by have:=(lgS.1 hx).1;rw [hfl,hl] at this;exact this
    rw [List.getElem?_take,if_pos hj,List.getElem?_drop,Array.getElem?_toList] at hu
    obtain ⟨y,hcx,hyx⟩:∃ y,cells[off+j]?=some y∧y.erase.toD=some x:=by
     have:=congrArg (fun l=>l[j]?) hc
     simp only [lgM,hx,Option.map_some] at this
     rw [List.getElem?_take,if_pos hj,List.getElem?_drop,omS] at this
     exact this
    obtain ⟨_,u',hu',hrel⟩:=h3 _ _ hcx
    rw [hu] at hu';injection hu' with hu';subst hu'
    exact (Jt1em hyx hrel).stab hst
 | agg as bs hl h ih=>
  intro v hv
  obtain ⟨vs,rfl,h1,h2⟩:=Rel.agg_inv hv
  refine .agg _ _ (by omega) fun j y u hy hu=>?_
  have hlt:j<as.length:=by rw [hl];exact (lgS.1 hy).1
  have hx:as[j]?=some as[j]:=by simp [hlt]
  have hxr:=h2 j _ u hx hu
  have hh:=ih j _ y hx hy u (by rw [hxr.er];exact hxr)
  have hye:y.erase=y:=by
   have hw:=h j _ y hx hy
   generalize as[j]=z at hw hxr
   have hz:=hxr.er
   cases hw with
   | refl=>exact hz
   | erase=>exact Jtf7 _
   | _=>rfl
  rw [hye] at hh;exact hh
 | tup as bs hl h ih=>
  intro v hv
  obtain ⟨vs,rfl,h1,h2⟩:=Rel.tup_inv hv
  refine .tup _ _ (by omega) fun j y u hy hu=>?_
  have hlt:j<as.length:=by rw [hl];exact (lgS.1 hy).1
  have hx:as[j]?=some as[j]:=by simp [hlt]
  have hxr:=h2 j _ u hx hu
  have hh:=ih j _ y hx hy u (by rw [hxr.er];exact hxr)
  have hye:y.erase=y:=by
   have hw:=h j _ y hx hy
   generalize as[j]=z at hw hxr
   have hz:=hxr.er
   cases hw with
   | refl=>exact hz
   | erase=>exact Jtf7 _
   | _=>rfl
  rw [hye] at hh;exact hh
end
theorem Jtgs:∀ {env:List (Nat × AV)} {t:Nat} {x:AV},get env t=some x→(t,x)∈env:=by
 intro env
 induction env with
 | nil=>intro t x h;simp [get] at h
 | cons p r ih=>
  intro t x h
  obtain ⟨s,y⟩:=p
  simp only [get] at h
  split at h
  ·rename_i hs;subst hs;injection h with h;subst h;simp
  ·exact List.mem_cons_of_mem _ (ih h)
section
variable {P:Program} {N:Nat} {st:ASt} {g:Gh} {a:Act} {w:World}
theorem Gh.cut_F{n:Nat}{r:Nat}(hs:Sim N st g a w)(h:¬ Mine st g a w r):(g.cut n w).F r=g.F r:=by
 simp only [Gh.cut]
 rw [if_neg]
 rintro ⟨b,_,hb⟩
 exact h (.inl ⟨b,hb⟩)
theorem Sim.weak(hs:Sim N st g a w){m:Nat}{st':ASt}(hw:Wk m st st'):
  Sim N st' (g.cut st'.H.length w) a w∧Tr (Mine st g a w) g w (g.cut st'.H.length w) w∧(∀ r,Mine st' (g.cut st'.H.length w) a w r→Mine st g a w r)∧
   ∀ b r,b<m→g.φ b=some r→(g.cut st'.H.length w).φ b=some r:=by
 have hst:Stab g.F w (g.cut st'.H.length w).F w:=by
  refine ⟨fun r hr=>?_,fun r j u hj hu=>hu,fun _=>Nat.le_refl _⟩
  simp only [Gh.cut]
  split
  ·rename_i hb
   obtain ⟨b,_,hb⟩:=hb
   rw [(hs.lt b r hb).2.1];exact Nat.zero_le _
  ·exact Nat.le_refl _
 have hφ:∀ b r,(g.cut st'.H.length w).φ b=some r→b<st'.H.length∧g.φ b=some r:=by
  intro b r h
  simp only [Gh.cut] at h
  split at h
  ·rename_i hb;exact ⟨hb,h⟩
  ·cases h
 have hrel:∀ {x y:AV} {v:Value},WkT st.H st'.H.length x y→Rel g.F g.φ w x.erase v→Rel (g.cut st'.H.length w).F (g.cut st'.H.length w).φ w y.erase v:=by
  intro x y v h hv
  rcases h with h | ⟨rfl,e,rfl⟩
  ·exact h.rel hs v hv
  ·rw [Rel.nils_inv hv];exact .d _ _ (.nil _ _)
 have hAP:∀ p e rows,AP st' p=some (.own e rows)→∃ x,AP st p=some x∧(x=.own e rows∨(x=.nils∧rows=[])):=by
  intro p e rows h
  cases p with
  | tmp t=>
   obtain ⟨x,hx,hk⟩:=hw.env _ (Jtgs h)
   exact ⟨x,hx,hk.own⟩
  | cell b j=>
   simp only [AP] at h
   split at h
   ·rename_i cells hb
    obtain ⟨k0,hk0,hk⟩:=hw.H b _ hb
    cases hk with
    | mem as bs hl hh=>
     have hlt:j<as.length:=by rw [hl];exact (lgS.1 h).1
     have hx:as[j]?=some as[j]:=by simp [hlt]
     exact ⟨as[j],by simp only [AP,hk0,hx],(hh j _ _ hx h).own⟩
   ·cases h
 have hRP:∀ p e rows,AP st' p=some (.own e rows)→RP (g.cut st'.H.length w).φ a w p=RP g.φ a w p:=by
  intro p e rows h
  cases p with
  | tmp t=>rfl
  | cell b j=>
   simp only [AP] at h
   have hb:b<st'.H.length:=by
    by_cases hb:b<st'.H.length
    ·exact hb
    ·rw [List.getElem?_eq_none (Nat.le_of_not_lt hb)] at h;cases h
   simp only [RP,Gh.cut,if_pos hb]
 have hnilRel:∀ p v,AP st p=some .nils→RP g.φ a w p=some v→v=.slice none 0 0:=by
  intro p v h1 h2
  cases p with
  | tmp t=>simp only [RP] at h2;injection h2 with h2;subst h2;exact (hs.env t _ h1).nils_inv
  | cell b j=>
   simp only [AP] at h1
   split at h1
   ·rename_i cells hb
    simp only [RP] at h2
    cases hr:g.φ b with
    | none=>rw [hr] at h2;cases h2
    | some r=>
     rw [hr,Option.bind_some] at h2
     obtain ⟨c,te,k1,k2,k3,k4⟩:=hs.block hb hr
     obtain ⟨_,u,hu,hru⟩:=k3 j _ h1
     rw [k4,hu] at h2;injection h2 with h2;subst h2
     exact hru.nils_inv
   ·cases h1
 have hO:∀ p r,Owner st' (g.cut st'.H.length w).φ a w p r→Owner st g.φ a w p r:=by
  rintro p r ⟨e,rows,v,h1,h2,n,cap,h3⟩
  rw [hRP p e rows h1] at h2
  obtain ⟨x,hx,rfl | ⟨rfl,_⟩⟩:=hAP p e rows h1
  ·exact ⟨e,rows,v,hx,h2,n,cap,h3⟩
  ·rw [hnilRel p v hx h2] at h3;cases h3
 refine ⟨{ size:=hs.size,env:=?_,inj:=?_,lt:=?_,dom:=?_,mem:=?_,iter:=?_,glob:=?_,own:=?_,excl:=?_,apart:=?_,view:=?_},?_,?_,?_⟩
 ·intro t y h
  obtain ⟨x,hx,hk⟩:=hw.env _ (Jtgs h)
  exact hrel hk (hs.env t x hx)
 ·exact fun b b' r h h'=>hs.inj b b' r (hφ b r h).2 (hφ b' r h').2
 ·intro b r h
  obtain ⟨h1,h2⟩:=hφ b r h
  obtain ⟨k1,k2,k3⟩:=hs.lt b r h2
  refine ⟨k1,?_,h1⟩
  simp only [Gh.cut]
  rw [if_neg]
  ·exact k2
  ·rintro ⟨b',hb',hr'⟩
   have:=hs.inj b b' r h2 hr'
   omega
 ·intro b k h hk
  have hb:b<st'.H.length:=(lgS.1 h).1
  obtain ⟨k0,hk0,hkk⟩:=hw.H b k h
  have hne:k0≠.dead:=by
   intro hd;subst hd;cases hkk with | dead=>exact hk rfl
  obtain ⟨r,hr⟩:=hs.dom b k0 hk0 hne
  exact ⟨r,by simp only [Gh.cut,if_pos hb];exact hr⟩
 ·intro b bs r h hr
  obtain ⟨hb,hr'⟩:=hφ b r hr
  obtain ⟨k0,hk0,hkk⟩:=hw.H b _ h
  cases hkk with
  | mem as bs hl hh=>
   obtain ⟨c,e,k1,k2,k3⟩:=hs.mem b as r hk0 hr'
   refine ⟨c,e,k1,by omega,fun j y hy=>?_⟩
   have hlt:j<as.length:=by rw [hl];exact (lgS.1 hy).1
   have hx:as[j]?=some as[j]:=by simp [hlt]
   obtain ⟨m1,u,m2,m3⟩:=k3 j _ hx
   have hk:=hh j _ y hx hy
   refine ⟨?_,u,m2,hrel hk m3⟩
   rcases hk with hk | ⟨_,e',rfl⟩
   ·exact hk.leaf m1
   ·rfl
 ·intro b s pos r h hr
  obtain ⟨hb,hr'⟩:=hφ b r hr
  obtain ⟨k0,hk0,hkk⟩:=hw.H b _ h
  cases hkk with
  | iter s p=>exact hs.iter b s pos r hk0 hr'
 ·intro b s pos r h hr
  obtain ⟨hb,hr'⟩:=hφ b r hr
  obtain ⟨k0,hk0,hkk⟩:=hw.H b _ h
  cases hkk with
  | glob s p=>exact hs.glob b s pos r hk0 hr'
 ·intro p e rows v h1 h2
  rw [hRP p e rows h1] at h2
  obtain ⟨x,hx,rfl | ⟨rfl,rfl⟩⟩:=hAP p e rows h1
  ·rcases hs.own p e rows v hx h2 with hn | ⟨r,cap,c,te,k1,k2,k3,k4⟩
   ·exact .inl hn
   ·refine .inr ⟨r,cap,c,te,k1,k2,?_,k4⟩
    simp only [Gh.cut]
    rw [if_neg]
    ·exact k3
    ·rintro ⟨b,_,hb⟩
     exact hs.apart p r b ⟨e,rows,v,hx,h2,_,_,k1⟩ hb
  ·exact .inl ⟨hnilRel p v hx h2,rfl⟩
 ·exact fun p p' r h h'=>hs.excl p p' r (hO p r h) (hO p' r h')
 ·exact fun p r b h hb=>hs.apart p r b (hO p r h) (hφ b r hb).2
 ·intro t org e rows h
  obtain ⟨x,hx,hk⟩:=hw.env _ (Jtgs h)
  rcases hk with hk | ⟨_,e',h'⟩
  ·exact absurd rfl (hk.notView org e rows)
  ·cases h'
 ·exact ⟨rfl,rfl,rfl,Nat.le_refl _,fun r _ hn=>⟨rfl,Gh.cut_F hs hn⟩,hst⟩
 ·rintro r (⟨b,hb⟩ | ⟨p,hp⟩)
  ·exact .inl ⟨b,(hφ b r hb).2⟩
  ·exact .inr ⟨p,hO p r hp⟩
 ·intro b r hb hr
  have:=hw.ge
  simp only [Gh.cut]
  rw [if_pos (by omega)]
  exact hr
structure Here (N:Nat) (O:Nat→Prop) (m:Nat) (g0:Gh) (w0:World) (D0:List Deferred) (st:ASt) (g:Gh) (a:Act) (w:World):Prop where
 sim:Sim N st g a w
 tr:Tr O g0 w0 g w
 mine:∀ r,Mine st g a w r→O r∨w0.heap.size≤r
 keep:∀ b r,b<m→g0.φ b=some r→g.φ b=some r
 ge:m≤st.H.length
 df:a.defers=D0
def Post(N:Nat)(O:Nat→Prop)(m:Nat)(g0:Gh)(w0:World)(D0:List Deferred)(Q:AExit→ASt→Prop):Exit→Act→World→Prop
 | .normal,a,w=>∃ st g,Q .normal st∧Here N O m g0 w0 D0 st g a w
 | .exit id,a,w=>∃ st g,Q (.exit id) st∧Here N O m g0 w0 D0 st g a w
 | .ret,a,w=>∃ st g,Q .ret st∧Here N O m g0 w0 D0 st g a w
 | .panic chain,a,w=>∃ x v st g,chain=[{ v,recovered:=false}]∧Q (.panic x) st∧Here N O m g0 w0 D0 st g a w∧Rel g.F g.φ w x.erase v
 | _,_,_=>False
theorem Here.step{O:Nat→Prop}{m:Nat}{g0:Gh}{w0:World}{D0:List Deferred}(h:Here N O m g0 w0 D0 st g a w){st':ASt}{g':Gh}{a':Act}{w':World}(hsim:Sim N st' g' a' w')(hs:Step st g a w st' g' a' w'):
  Here N O m g0 w0 D0 st' g' a' w' where
 sim:=hsim
 tr:=h.tr.trans hs.tr h.mine
 mine:=fun r hr=>by
  rcases hs.mine r hr with h1 | h1
  ·exact h.mine r h1
  ·exact .inr (Nat.le_trans h.tr.size h1)
 keep:=fun b r hb hr=>hs.φ b r (h.keep b r hb hr)
 ge:=Nat.le_trans h.ge hs.H
 df:=hs.df.trans h.df
theorem Here.weak{O:Nat→Prop}{m:Nat}{g0:Gh}{w0:World}{D0:List Deferred}(h:Here N O m g0 w0 D0 st g a w){st':ASt}(hw:Wk m st st'):Here N O m g0 w0 D0 st' (g.cut st'.H.length w) a w:=by
 obtain ⟨h1,h2,h3,h4⟩:=h.sim.weak hw
 exact ⟨h1,h.tr.trans h2 h.mine,fun r hr=>h.mine r (h3 r hr),fun b r hb hr=>h4 b r hb (h.keep b r hb hr),hw.ge,h.df⟩
theorem Here.kill{O:Nat→Prop}{m:Nat}{g0:Gh}{w0:World}{D0:List Deferred}(h:Here N O m g0 w0 D0 st g a w)(ks:List Nat):Here N O m g0 w0 D0 ⟨unview (Go.AE.kill ks st.env),st.H⟩ g a w:=by
 obtain ⟨h1,h2⟩:=h.sim.kill ks
 exact ⟨h1,h.tr,fun r hr=>h.mine r (h2 r hr),h.keep,h.ge,h.df⟩
theorem Jt1l8{S:Type}{c:Code}{Q:Exit→Act→World→Prop}(I:S→Act→World→Prop)(μ:S→Nat){s:S}(h₀:I s a w)
  (round:∀ s a w,I s a w→c.wp P (Exit.then (fun a' w'=>∃ s',I s' a' w'∧μ s'<μ s) Q) a w):(Code.loop c).wp P Q a w:=by
 intro b k cs
 have key:∀ n s a w,μ s=n→I s a w→
   ∃ e a' w',Q e a' w'∧Arrives P (lone (b.at a (.code c::.inLoop c::k)) cs w) b k cs e a' w':=by
  intro n
  induction n using Nat.strongRecOn with
  | _ n ih=>
   intro s a w hn hI
   obtain ⟨e,a₁,w₁,hq,harr⟩:=round s a w hI b (.inLoop c::k) cs
   cases e with
   | normal=>
    obtain ⟨s',hI₁,hlt⟩:=hq
    obtain ⟨e₂,a₂,w₂,hq₂,harr₂⟩:=ih (μ s') (hn▸hlt) s' a₁ w₁ rfl hI₁
    exact ⟨e₂,a₂,w₂,hq₂,.of_steps (Steps.trans harr (.one step_inLoop)) harr₂⟩
   | exit id=>exact ⟨_,a₁,w₁,hq,.pass (x:=.inLoop c) rfl (fun _ _=>.inl (by simp)) harr⟩
   | goto l=>exact ⟨_,a₁,w₁,hq,.pass (x:=.inLoop c) rfl (fun _ _=>.inl (by simp)) harr⟩
   | ret=>exact ⟨_,a₁,w₁,hq,.pass (x:=.inLoop c) rfl (fun _ _=>.inl (by simp)) harr⟩
   | panic ch=>exact ⟨_,a₁,w₁,hq,.pass (x:=.inLoop c) rfl (fun _ _=>.inl (by simp)) harr⟩
   | outgrown=>exact ⟨_,a₁,w₁,hq,.pass (x:=.inLoop c) rfl (fun _ _=>.inl (by simp)) harr⟩
 obtain ⟨e,a',w',hq,harr⟩:=key _ s a w rfl h₀
 exact ⟨e,a',w',hq,.of_steps (.one step_loop) harr⟩
end
inductive Eff where
 | v (x:AV)
 | blk (k:Blk)
 | o (a i:Nat) (z x:AV)
 | s (b off:Nat) (ys:List AV)
def wr(cells:List AV)(off:Nat)(ys:List AV):List AV:=cells.mapIdx fun c x=>if off≤c∧c<off+ys.length then ys.getD (c-off) x else x
theorem Jt1lc{cells:List AV}{off:Nat}{ys:List AV}:(wr cells off ys).length=cells.length:=by simp [wr]
theorem wr_get{cells:List AV}{off:Nat}{ys:List AV}{c:Nat}:(wr cells off ys)[c]?=if off≤c∧c<off+ys.length∧c<cells.length then ys[c-off]? else cells[c]?:=by
 unfold wr
 rw [List.getElem?_mapIdx]
 by_cases hc:c<cells.length
 ·rw [lgE hc]
  simp only [Option.map_some]
  by_cases h:off≤c∧c<off+ys.length
  ·rw [if_pos h,if_pos ⟨h.1,h.2,hc⟩,List.getD_eq_getElem?_getD]
   have:c-off<ys.length:=by omega
   rw [lgE this];rfl
  ·rw [if_neg h,if_neg (fun h'=>h ⟨h'.1,h'.2.1⟩)]
 ·rw [List.getElem?_eq_none (by omega),if_neg (fun h=>hc h.2.2)];rfl
theorem wr_spl{cells:List AV}{off:Nat}{ys:List AV}(h:off+ys.length≤cells.length):wr cells off ys=spl cells off ys:=by
 apply List.ext_getElem?
 intro c
 rw [wr_get,Jt1cu _ _ _ h]
 by_cases hc:off≤c∧c<off+ys.length
 ·rw [if_pos ⟨hc.1,hc.2,by omega⟩,if_pos hc]
 ·rw [if_neg (fun h'=>hc ⟨h'.1,h'.2.1⟩),if_neg hc]
def stor(b off:Nat)(ys:List AV)(H:List Blk):List Blk:=match H[b]? with
 | some (.mem cells)=>H.set b (.mem (wr cells off ys))
 | _=>H
def Eff.app(dst:Option Nat):Eff→ASt→ASt
 | .v x,st=>put dst x st
 | .blk k,st=>put dst (.ptr st.H.length 0) ⟨st.env,st.H++[k]⟩
 | .o a i z x,st=>match dst with
  | some d=>⟨(d,x)::(a,z)::(i,z)::st.env,st.H⟩
  | none=>st
 | .s b off ys,st=>⟨st.env,stor b off ys st.H⟩
def Eff.ok(o:IOp)(st:ASt):Eff→Prop
 | .v x=>∀ i e rows,x=.view (.tmp i) e rows→∃ u,o.io=.mov (.t u)∧(u=i∨get st.env u=some (.view (.tmp i) e rows))
 | .blk _=>Jtll o=true
 | .o a i z x=>(∃ es bs y,o.io=.appq es bs (.t a) y i)∧(∃ rows,z=.d (.sl rows))∧(∃ es rows,x=.own es rows)∧o.dst.isSome=true
 | .s b off ys=>∃ n x v ls cells,o.io=.storeq n x v ls∧ys.length=n∧st.H[b]?=some (.mem cells)∧off+n≤cells.length∧
   (∀ j,off≤j→j<off+n→∀ e r,cells[j]?≠some (.own e r))∧(∀ y∈ys,∀ e r,y≠.own e r)∧ls.all (awayL st.env b off n)=true
def Jth7(o:IOp)(a i:Nat):Prop:=∃ es bs y,o.io=.appq es bs (.t a) y i
theorem Jt1ds(o:IOp):o.strip.dst=o.dst:=by obtain ⟨d,io,g,q⟩:=o;cases io<;>rfl
theorem Jt1du(o:IOp):o.strip.q=o.q:=by obtain ⟨d,io,g,q⟩:=o;cases io<;>rfl
theorem Jt1dt(o:IOp):o.strip.guard=o.guard:=by obtain ⟨d,io,g,q⟩:=o;cases io<;>rfl
structure Agree (o:IOp) (st st2:ASt):Prop where
 env:∀ t∈o.names,get st2.env t=get st.env t
 H:∀ t∈o.names,∀ b off,(get st.env t).map AV.erase=some (.ptr b off)→∀ cells,st.H[b]?=some (.mem cells)→∃ cells2,st2.H[b]?=some (.mem cells2)∧cells2.length=cells.length∧
  (∀ n x v ls,o.io=.storeq n x v ls→∀ j,off≤j→j<off+n→(∀ e r,cells[j]?≠some (.own e r))→∀ e r,cells2[j]?≠some (.own e r))∧
  (∀ n,o.io=.load n (.t t)→∀ j,off≤j→j<off+n.getD 1→cells2[j]?=cells[j]?)
 nv:∀ a i,Jth7 o a i→NV a i st.env→NV a i st2.env
section
variable {e1 e2:List (Nat × AV)}
theorem Jtf9{x:Opd}(h:∀ t∈x.tmps,get e2 t=get e1 t):ev e2 x=ev e1 x:=by
 cases x with
 | t i=>exact h i (by simp [Opd.tmps])
 | c y=>rfl
theorem Jtfc{x:Opd}(h:∀ t∈x.tmps,get e2 t=get e1 t):evr e2 x=evr e1 x:=by
 unfold evr;rw [Jtf9 h]
theorem Jtfe:∀ {xs:List Opd},(∀ t∈xs.flatMap Opd.tmps,get e2 t=get e1 t)→evs e2 xs=evs e1 xs:=by
 intro xs
 induction xs with
 | nil=>intro _;rfl
 | cons x xs ih=>
  intro h
  simp only [evs]
  rw [Jtfc fun t ht=>h t (by simp [ht]),ih fun t ht=>h t (by rw [List.flatMap_cons];exact List.mem_append_right _ ht)]
theorem Jt7p{x:Opd}(h:∀ t∈x.tmps,get e2 t=get e1 t):asIx e2 x=asIx e1 x:=by
 unfold asIx;rw [Jtfc h]
theorem Jt9t{n:Nat}{lo hi:Option Opd}(h:∀ t∈Jtv8 lo++Jtv8 hi,get e2 t=get e1 t):bnds e2 n lo hi=bnds e1 n lo hi:=by
 have h1:∀ x,lo=some x→asIx e2 x=asIx e1 x:=fun x hx=>Jt7p fun t ht=>h t (by rw [hx];simp [Jtv8,ht])
 have h2:∀ x,hi=some x→asIx e2 x=asIx e1 x:=fun x hx=>Jt7p fun t ht=>h t (by rw [hx];simp [Jtv8,ht])
 unfold bnds
 cases lo with
 | none=>cases hi with
  | none=>rfl
  | some y=>simp only [h2 y rfl]
 | some x=>cases hi with
  | none=>simp only [h1 x rfl]
  | some y=>simp only [h1 x rfl,h2 y rfl]
theorem Jtxt:∀ {ps:List (Nat × Nat × Opd)} {z:List AV},(∀ t∈ps.flatMap (fun p=>p.2.2.tmps),get e2 t=get e1 t)→place z e2 ps=place z e1 ps:=by
 intro ps
 induction ps with
 | nil=>intro z _;rfl
 | cons p ps ih=>
  intro z h
  obtain ⟨off,n,x⟩:=p
  simp only [place]
  rw [Jtfc fun t ht=>h t (by simp [ht])]
  cases evr e1 x with
  | none=>rfl
  | some y=>
   simp only
   split
   ·exact ih fun t ht=>h t (by rw [List.flatMap_cons];exact List.mem_append_right _ ht)
   ·rfl
theorem Jtxr{esz:Nat}:∀ {ps:List (Nat × Opd)} {z:List (List D)},(∀ t∈ps.flatMap (fun p=>p.2.tmps),get e2 t=get e1 t)→Jtxq z esz e2 ps=Jtxq z esz e1 ps:=by
 intro ps
 induction ps with
 | nil=>intro z _;rfl
 | cons p ps ih=>
  intro z h
  obtain ⟨i,x⟩:=p
  simp only [Jtxq]
  rw [Jtfc fun t ht=>h t (by simp [ht])]
  cases evr e1 x with
  | none=>rfl
  | some y=>
   simp only
   split
   ·split
    ·exact ih fun t ht=>h t (by rw [List.flatMap_cons];exact List.mem_append_right _ ht)
    ·rfl
   ·rfl
end
theorem Jtuk{st st2:ASt}{io:AO}{x:AV}(he:∀ t∈io.tmps,get st2.env t=get st.env t)(hl:∀ n c,io≠.load n (.c c))
  (hH:∀ i n,io=.load n (.t i)→∀ b off,evr st.env (.t i)=some (.ptr b off)→∀ cells,st.H[b]?=some (.mem cells)→∃ cells2,st2.H[b]?=some (.mem cells2)∧cells2.length=cells.length∧∀ j,off≤j→j<off+n.getD 1→cells2[j]?=cells[j]?) (h:opV st io=some x):opV st2 io=some x:=by
 cases io
 case mov y=>cases y with
  | t i=>
   have:=he i (by simp [AO.tmps,Opd.tmps])
   simp only [opV] at h ⊢;rw [this];exact h
  | c z=>exact h
 case asg y=>simp only [opV] at h ⊢;rw [Jtf9 he];exact h
 case pick c a b=>
  simp only [opV] at h ⊢
  rw [Jtfc (x:=c) fun t ht=>he t (by simp [AO.tmps,ht]),Jtfc (x:=a) fun t ht=>he t (by simp [AO.tmps,ht]),Jtfc (x:=b) fun t ht=>he t (by simp [AO.tmps,ht])];exact h
 case take=>simp [opV] at h
 case rng=>simp [opV] at h
 case nxt=>simp [opV] at h
 case mo=>simp [opV] at h
 case box=>simp [opV] at h
 case alloc=>simp [opV] at h
 case build z ps=>simp only [opV] at h ⊢;rw [Jtxt he];exact h
 case bslice=>simp [opV] at h
 case load n y=>
  cases y with
  | c z=>exact absurd rfl (hl n z)
  | t i=>
   simp only [opV] at h ⊢
   rw [Jtfc (x:=.t i) he]
   split at h
   ·rename_i b off hb
    split at h
    ·rename_i cells hc
     obtain ⟨cells2,e1,e2,e3⟩:=hH i n rfl b off hb _ hc
     simp only [hb,e1]
     cases n with
     | none=>
      simp only [Option.getD_none] at e3
      simp only [e3 off (Nat.le_refl _) (by omega)]
      exact h
     | some n=>
      simp only [Option.getD_some] at e3
      simp only [e2] at h ⊢
      split at h
      ·rename_i hle
       rw [if_pos hle]
       rw [←h]
       congr 3
       apply List.ext_getElem?
       intro j
       rw [List.getElem?_take,List.getElem?_take]
       split
       ·rw [List.getElem?_drop,List.getElem?_drop,e3 _ (by omega) (by omega)]
       ·rfl
      ·cases h
    ·cases h
   ·rename_i cells hb
    first|exact h | (trace_state;simp_all)
   ·cases h
 case store=>simp [opV] at h
 case storeq=>simp [opV] at h
 case pan=>simp [opV] at h
 case mkif t y=>simp only [opV] at h ⊢;rw [Jtfc he];exact h
 case isnif ng y=>simp only [opV] at h ⊢;rw [Jtfc he];exact h
 case tas t y=>simp only [opV] at h ⊢;rw [Jtfc he];exact h
 case nilck y=>simp only [opV] at h ⊢;rw [Jtfc he];exact h
 case bin op y z=>simp only [opV] at h ⊢;rw [Jtfc (x:=y) fun t ht=>he t (by simp [AO.tmps,ht]),Jtfc (x:=z) fun t ht=>he t (by simp [AO.tmps,ht])];exact h
 case eqs ng ks y z=>simp only [opV] at h ⊢;rw [Jtfc (x:=y) fun t ht=>he t (by simp [AO.tmps,ht]),Jtfc (x:=z) fun t ht=>he t (by simp [AO.tmps,ht])];exact h
 case eqb ng y z=>simp only [opV] at h ⊢;rw [Jtfc (x:=y) fun t ht=>he t (by simp [AO.tmps,ht]),Jtfc (x:=z) fun t ht=>he t (by simp [AO.tmps,ht])];exact h
 case un op y=>simp only [opV] at h ⊢;rw [Jtfc he];exact h
 case conv k y=>simp only [opV] at h ⊢;rw [Jtfc he];exact h
 case runeS y=>simp only [opV] at h ⊢;rw [Jtfc he];exact h
 case runesS y=>simp only [opV] at h ⊢;rw [Jtfc he];exact h
 case bytesS y=>simp only [opV] at h ⊢;rw [Jtfc he];exact h
 case faddr k y=>simp only [opV] at h ⊢;rw [Jtfc he];exact h
 case fld k n y=>simp only [opV] at h ⊢;rw [Jtfc he];exact h
 case iaddr e y z=>simp only [opV] at h ⊢;rw [Jtfc (x:=y) fun t ht=>he t (by simp [AO.tmps,ht]),Jt7p (x:=z) fun t ht=>he t (by simp [AO.tmps,ht])];exact h
 case iaddrA l e y z=>simp only [opV] at h ⊢;rw [Jtfc (x:=y) fun t ht=>he t (by simp [AO.tmps,ht]),Jt7p (x:=z) fun t ht=>he t (by simp [AO.tmps,ht])];exact h
 case ixA l e n y z=>simp only [opV] at h ⊢;rw [Jtfc (x:=y) fun t ht=>he t (by simp [AO.tmps,ht]),Jt7p (x:=z) fun t ht=>he t (by simp [AO.tmps,ht])];exact h
 case ixS y z=>simp only [opV] at h ⊢;rw [Jtfc (x:=y) fun t ht=>he t (by simp [AO.tmps,ht]),Jt7p (x:=z) fun t ht=>he t (by simp [AO.tmps,ht])];exact h
 case slc e y lo hi=>
  have hb:∀ n,bnds st2.env n lo hi=bnds st.env n lo hi:=fun n=>Jt9t fun t ht=>he t (by simp only [AO.tmps,List.append_assoc];exact List.mem_append_right _ ht)
  simp only [opV,hb] at h ⊢;rw [Jtfc (x:=y) fun t ht=>he t (by simp [AO.tmps,ht])];exact h
 case slcS y lo hi=>
  have hb:∀ n,bnds st2.env n lo hi=bnds st.env n lo hi:=fun n=>Jt9t fun t ht=>he t (by simp only [AO.tmps,List.append_assoc];exact List.mem_append_right _ ht)
  simp only [opV,hb] at h ⊢;rw [Jtfc (x:=y) fun t ht=>he t (by simp [AO.tmps,ht])];exact h
 case ext y i=>simp only [opV] at h ⊢;rw [Jtfc he];exact h
 case slc0 y=>simp only [opV] at h ⊢;rw [Jtfc he];exact h
 case isnil=>simp [opV] at h
 case len y=>simp only [opV] at h ⊢;rw [Jtfc he];exact h
 case lenS y=>simp only [opV] at h ⊢;rw [Jtfc he];exact h
 case mx y z=>simp only [opV] at h ⊢;rw [Jtfc (x:=y) fun t ht=>he t (by simp [AO.tmps,ht]),Jtfc (x:=z) fun t ht=>he t (by simp [AO.tmps,ht])];exact h
 case mn y z=>simp only [opV] at h ⊢;rw [Jtfc (x:=y) fun t ht=>he t (by simp [AO.tmps,ht]),Jtfc (x:=z) fun t ht=>he t (by simp [AO.tmps,ht])];exact h
 case mkfn f ys zs=>simp only [opV] at h ⊢;rw [Jtfe (xs:=ys) fun t ht=>he t (by simp only [AO.tmps];exact List.mem_append_left _ ht),Jtfe (xs:=zs) fun t ht=>he t (by simp only [AO.tmps];exact List.mem_append_right _ ht)];exact h
 case app=>simp [opV] at h
 case appq=>simp [opV] at h
 case mkslice=>simp [opV] at h
 case clr=>simp [opV] at h
 case cpy=>simp [opV] at h
 case call=>simp [opV] at h
 case callv=>simp [opV] at h
section
variable {P:Program}
theorem Jtf8(x:AV)(p:Place)(e:Nat)(rows:List (List D)):x.erase≠.view p e rows:=by intro h;cases x<;>simp [AV.erase] at h
theorem evr_nv {env:List (Nat × AV)} {x:Opd} {p:Place} {e:Nat} {rows:List (List D)}:evr env x≠some (.view p e rows):=by
 unfold evr;intro h
 rw [omS] at h
 obtain ⟨y,_,h⟩:=h
 exact Jtf8 _ _ _ _ h
theorem Jt1dp{k:IntKind}{f:List Int→List UInt8}{o:Option AV}{p:Place}{e:Nat}{rows:List (List D)}:strOf k f o≠some (.view p e rows):=by
 intro h;unfold strOf at h
 split at h
 ·rw [omS] at h;obtain ⟨_,_,h⟩:=h;cases h
 ·cases h
 ·cases h
 ·cases h
theorem Jtum{st:ASt}{io:AO}{i e:Nat}{rows:List (List D)} (h:opV st io=some (.view (.tmp i) e rows)):∃ u,io=.mov (.t u)∧(u=i∨get st.env u=some (.view (.tmp i) e rows)):=by
 cases io
 case runesS y=>exact (Jt1dp h).elim
 case bytesS y=>exact (Jt1dp h).elim
 case mov y=>
  cases y with
  | t u=>
   refine ⟨u,rfl,?_⟩
   simp only [opV] at h
   split at h
   ·injection h with h;injection h with h1;injection h1 with h1;exact .inl h1
   ·exact .inr h
  | c z=>simp only [opV] at h;injection h with h;exact absurd h (Jtf8 _ _ _ _)
 case asg y=>
  exfalso
  simp only [opV] at h
  split at h
  ·cases h
  ·injection h with h;exact Jtf8 _ _ _ _ h
  ·cases h
 case pick c a b=>
  exfalso
  simp only [opV] at h
  split at h
  ·split at h<;>exact evr_nv h
  ·cases h
 case load n y=>
  exfalso
  simp only [opV] at h
  repeat' (first | (cases h;done) | split at h)
  all_goals (first | (injection h with h;exact Jtf8 _ _ _ _ h) | skip)
  all_goals (rw [omS] at h;obtain ⟨_,_,h⟩:=h;cases h)
 case nilck y=>
  exfalso
  simp only [opV] at h
  repeat' (first | (cases h;done) | split at h)
 all_goals exfalso
 all_goals (simp only [opV,partV,reduceCtorEq] at h)
 all_goals (repeat' (first | (cases h;done) | (rw [omS] at h;obtain ⟨_,_,h⟩:=h;first | (cases h;done)|exact absurd h (Jtf8 _ _ _ _)) | split at h))
theorem Jt4x{o:IOp}{st:ASt}{K:ASt→Prop}(hl:∀ n c,o.io≠.load n (.c c)) (h:AWval o.io o.dst K st):∃ x,K (put o.dst x st)∧Eff.ok o st (.v x)∧∀ st2,Agree o st st2→∀ K2:ASt→Prop,K2 (put o.dst x st2)→AWval o.io o.dst K2 st2:=by
 obtain ⟨x,h1,h2⟩:=h
 refine ⟨x,h2,fun i e rows hx=>by subst hx;exact Jtum h1,fun st2 ha K2 hK=>⟨x,?_,hK⟩⟩
 have hn:∀ t∈o.io.tmps,t∈o.names:=fun t ht=>by simp only [IOp.names,List.append_assoc];exact List.mem_append_left _ ht
 refine Jtuk (fun t ht=>ha.env t (hn t ht)) hl (fun i n hi b off hb cells hk=>?_) h1
 obtain ⟨cells2,k1,k2,_,k3⟩:=ha.H i (hn i (by rw [hi];simp [AO.tmps,Opd.tmps])) b off hb cells hk
 exact ⟨cells2,k1,k2,k3 n hi⟩
theorem AWio_q{o:IOp}{st:ASt}{K:ASt→Prop}{QP:AV→ASt→Prop}(hqt:quiet o=true)(h:AWio P true o.io o.dst K QP st):
  ∃ e:Eff,K (e.app o.dst st)∧e.ok o st∧(Jtll o=true→o.guard=none∧o.dst.isSome=true∧∃ k,e=.blk k)∧∀ st2,Agree o st st2→∀ (K2:ASt→Prop) (QP2:AV→ASt→Prop),K2 (e.app o.dst st2)→AWio P true o.strip.io o.dst K2 QP2 st2:=by
 obtain ⟨dst,io,guard,q⟩:=o
 have hn:∀ t∈io.tmps,t∈(⟨dst,io,guard,q⟩:IOp).names:=fun t ht=>by simp only [IOp.names,List.append_assoc];exact List.mem_append_left _ ht
 have val:(IOp.strip ⟨dst,io,guard,q⟩=⟨dst,io,guard,q⟩)→(∀ n c,io≠.load n (.c c))→Jtll ⟨dst,io,guard,q⟩=false→(∀ K QP st,AWio P true io dst K QP st=AWval io dst K st)→∃ e:Eff,K (e.app dst st)∧e.ok ⟨dst,io,guard,q⟩ st∧
   (Jtll ⟨dst,io,guard,q⟩=true→guard=none∧dst.isSome=true∧∃ k,e=.blk k)∧∀ st2,Agree ⟨dst,io,guard,q⟩ st st2→∀ (K2:ASt→Prop) (QP2:AV→ASt→Prop),K2 (e.app dst st2)→AWio P true (IOp.strip ⟨dst,io,guard,q⟩).io dst K2 QP2 st2:=by
  intro hsp hl hna heq
  rw [hsp]
  rw [heq] at h
  obtain ⟨x,h1,h0,h2⟩:=Jt4x (o:=⟨dst,io,guard,q⟩) hl h
  exact ⟨.v x,h1,h0,(fun h=>by rw [hna] at h;cases h),fun st2 ha K2 QP2 hK=>by rw [heq];exact h2 st2 ha K2 hK⟩
 cases io
 case asg y=>
  cases y with
  | c z=>exact val rfl (by intro _ _ h;cases h) rfl (fun _ _ _=>rfl)
  | t i=>
   simp only [AWio] at h
   split at h
   ·exact absurd h.1 (by simp)
   ·rename_i hno
    obtain ⟨x,h1,h0,h2⟩:=Jt4x (o:=⟨dst,.asg (.t i),guard,q⟩) (by intro _ _ h;cases h) h
    refine ⟨.v x,h1,h0,(fun h=>by cases h),fun st2 ha K2 QP2 hK=>?_⟩
    simp only [IOp.strip,AWio]
    have hg:get st2.env i=get st.env i:=ha.env i (hn i (by simp [AO.tmps,Opd.tmps]))
    split
    ·rename_i e rows hown
     rw [hg] at hown
     exact absurd hown (hno e rows)
    ·exact h2 st2 ha K2 hK
 case take y=>simp [quiet] at hqt
 case rng y=>simp [quiet] at hqt
 case nxt y=>simp [quiet] at hqt
 case mo m=>simp [quiet] at hqt
 case box=>exact absurd h.1 (by simp)
 case alloc z=>
  obtain ⟨k,h1,h2⟩:=h
  simp only [quiet,Bool.and_eq_true,Option.isNone_iff_eq_none] at hqt
  refine ⟨.blk k,h2,rfl,fun _=>⟨hqt.1,hqt.2,k,rfl⟩,fun st2 ha K2 QP2 hK=>?_⟩
  exact ⟨k,by simpa [opB] using h1,hK⟩
 case bslice esz len z parts=>
  simp only [AWio] at h
  by_cases hl0:len=0
  ·rw [if_pos hl0] at h
   refine ⟨.v .nile,h,(fun i e rows h=>by cases h),(fun h=>by cases h),fun st2 ha K2 QP2 hK=>?_⟩
   simp only [IOp.strip,AWio];rw [if_pos hl0];exact hK
  rw [if_neg hl0] at h
  obtain ⟨h1,h2,h3,rows,h4,h5⟩:=h
  refine ⟨.v (.own esz rows),h5,(fun i e rows h=>by cases h),(fun h=>by cases h),fun st2 ha K2 QP2 hK=>?_⟩
  simp only [IOp.strip,AWio];rw [if_neg hl0]
  refine ⟨h1,h2,h3,rows,?_,hK⟩
  rw [Jtxr fun t ht=>ha.env t (hn t ht)]
  exact h4
 case store=>exact absurd h.1 (by simp)
 case pan=>simp [quiet] at hqt
 case storeq n x v ls=>
  obtain ⟨_,b,off,cells,y,h1,h2,h3,h4,h5,h6,h7,h8,h9,h10⟩:=h
  simp only [quiet,Bool.and_eq_true,Option.isNone_iff_eq_none] at hqt
  have hst:∀ (s:ASt) (cs:List AV),s.H[b]?=some (.mem cs)→off+n≤cs.length→Eff.app dst (.s b off y.cells) s=⟨s.env,s.H.set b (.mem (spl cs off y.cells))⟩:=by
   intro s cs e1 e2
   simp only [Eff.app,stor,e1]
   rw [wr_spl (by rw [h4];exact e2)]
  have hold:∀ j,off≤j→j<off+n→∀ e r,cells[j]?≠some (.own e r):=by
   intro j k1 k2 e r k3
   rw [List.all_eq_true] at h8
   have hm:AV.own e r∈(cells.drop off).take n:=by
    refine lmG (i:=j-off) ?_
    rw [List.getElem?_take,if_pos (by omega),List.getElem?_drop,show off+(j-off)=j by omega];exact k3
   have:=h8 _ hm
   simp [AV.notOwn] at this
  refine ⟨.s b off y.cells,by rw [hst st cells h2 h5];exact h10,⟨n,x,v,ls,cells,rfl,h4,h2,h5,hold,fun z hz e r he=>?_,h9⟩,(fun h=>by cases h),fun st2 ha K2 QP2 hK=>?_⟩
  ·rw [List.all_eq_true] at h7
   have:=h7 z hz
   rw [he] at this;simp [AV.notOwn] at this
  ·have hnx:∀ t∈x.tmps,t∈(⟨dst,.storeq n x v ls,guard,q⟩:IOp).names:=fun t ht=>hn t (by simp [AO.tmps,ht])
   have hnv:∀ t∈v.tmps,t∈(⟨dst,.storeq n x v ls,guard,q⟩:IOp).names:=fun t ht=>hn t (by simp [AO.tmps,ht])
   have hb2:∃ cells2,st2.H[b]?=some (.mem cells2)∧cells2.length=cells.length∧∀ j,off≤j→j<off+n→∀ e r,cells2[j]?≠some (.own e r):=by
    cases x with
    | t i=>
     obtain ⟨cells2,k1,k2,k3,_⟩:=ha.H i (hnx i (by simp [Opd.tmps])) b off h1 cells h2
     exact ⟨cells2,k1,k2,fun j l1 l2=>k3 n _ _ _ rfl j l1 l2 (hold j l1 l2)⟩
    | c z=>simp at hqt
   obtain ⟨cells2,k1,k2,k3⟩:=hb2
   rw [hst st2 cells2 k1 (by omega)] at hK
   refine ⟨rfl,b,off,cells2,y,?_,k1,?_,h4,by omega,h6,h7,?_,rfl,hK⟩
   ·rw [Jtfc fun t ht=>ha.env t (hnx t ht)];exact h1
   ·rw [Jtfc fun t ht=>ha.env t (hnv t ht)];exact h3
   ·rw [List.all_eq_true]
    intro z hz
    obtain ⟨j,hj⟩:=List.getElem?_of_mem hz
    rw [List.getElem?_take] at hj
    split at hj
    ·rw [List.getElem?_drop] at hj
     cases z<;>first|rfl|exact absurd hj (k3 _ (by omega) (by omega) _ _)
    ·cases hj
 case isnil=>exact absurd h.1 (by simp)
 case app esz bytes x y=>
  have hx:∀ t∈x.tmps,t∈(⟨dst,.app esz bytes x y,guard,q⟩:IOp).names:=fun t ht=>hn t (by simp [AO.tmps,ht])
  have hy:∀ t∈y.tmps,t∈(⟨dst,.app esz bytes x y,guard,q⟩:IOp).names:=fun t ht=>hn t (by simp [AO.tmps,ht])
  have happ:∀ st2:ASt,Agree ⟨dst,.app esz bytes x y,guard,q⟩ st st2→Jt7n st2.env y=Jt7n st.env y:=by
   intro st2 ha;unfold Jt7n;rw [Jtfc fun t ht=>ha.env t (hy t ht)]
  have hsrc:evr st.env x=some .nile∨evr st.env x=some .nils:=by
   simp only [AWio] at h
   split at h
   ·rename_i e;exact .inl e
   ·rename_i e;exact .inr e
   ·exact absurd h.1 (by simp)
   ·exact absurd h.1 (by simp)
   ·exact absurd h.1 (by simp)
  have h0:AWapp0 esz bytes y dst K st:=by
   simp only [AWio] at h
   split at h
   ·exact h.elim id (fun h=>absurd h.1 (by simp))
   ·exact h.elim (fun h=>h.2) (fun h=>absurd h.1 (by simp))
   ·exact absurd h.1 (by simp)
   ·exact absurd h.1 (by simp)
   ·exact absurd h.1 (by simp)
  obtain ⟨ys,k1,k2,k3,k4,k5,k6,k7⟩:=h0
  have back:∀ (x':AV),(ys=[]→x'=.nile)→(ys≠[]→x'=.own esz ys)→∀ st2,Agree ⟨dst,.app esz bytes x y,guard,q⟩ st st2→∀ (K2:ASt→Prop) (QP2:AV→ASt→Prop),K2 (Eff.app dst (.v x') st2)→AWio P true (.app esz bytes x y) dst K2 QP2 st2:=by
   intro x' e1 e2 st2 ha K2 QP2 hK
   have h0:AWapp0 esz bytes y dst K2 st2:=⟨ys,by rw [happ st2 ha];exact k1,k2,k3,k4,k5,fun h=>by have:=e1 h;subst this;exact hK,fun h=>by have:=e2 h;subst this;exact hK⟩
   simp only [IOp.strip,AWio]
   have hev:evr st2.env x=evr st.env x:=Jtfc fun t ht=>ha.env t (hx t ht)
   rw [hev]
   rcases hsrc with h | h
   ·rw [h];exact .inl h0
   ·rw [h];exact .inl ⟨by trivial,h0⟩
  by_cases hys:ys=[]
  ·exact ⟨.v .nile,k6 hys,(fun i e rows h=>by cases h),(fun h=>by cases h),back .nile (fun _=>rfl) (fun h=>absurd hys h)⟩
  ·exact ⟨.v (.own esz ys),k7 hys,(fun i e rows h=>by cases h),(fun h=>by cases h),back (.own esz ys) (fun h=>absurd h hys) (fun _=>rfl)⟩
 case appq esz bytes x y i0=>
  cases x with
  | c z=>exact absurd h.2 (by simp)
  | t a0=>
   have ha0:a0∈(⟨dst,.appq esz bytes (.t a0) y i0,guard,q⟩:IOp).names:=hn a0 (by simp [AO.tmps,Opd.tmps])
   have hi0:i0∈(⟨dst,.appq esz bytes (.t a0) y i0,guard,q⟩:IOp).names:=hn i0 (by simp [AO.tmps])
   have happ:∀ st2:ASt,Agree ⟨dst,.appq esz bytes (.t a0) y i0,guard,q⟩ st st2→Jt7n st2.env y=Jt7n st.env y:=by
    intro st2 ha;unfold Jt7n;rw [Jtfc fun t ht=>ha.env t (hn t (by simp [AO.tmps,ht]))]
   have nil:(∀ st2:ASt,Agree ⟨dst,.appq esz bytes (.t a0) y i0,guard,q⟩ st st2→∀ (K2:ASt→Prop) (QP2:AV→ASt→Prop),AWapp0 esz bytes y dst K2 st2→AWio P true (.appq esz bytes (.t a0) y i0) dst K2 QP2 st2)→AWapp0 esz bytes y dst K st→
     ∃ e:Eff,K (e.app dst st)∧e.ok ⟨dst,.appq esz bytes (.t a0) y i0,guard,q⟩ st∧(Jtll ⟨dst,.appq esz bytes (.t a0) y i0,guard,q⟩=true→guard=none∧dst.isSome=true∧∃ k,e=.blk k)∧
     ∀ st2,Agree ⟨dst,.appq esz bytes (.t a0) y i0,guard,q⟩ st st2→∀ (K2:ASt→Prop) (QP2:AV→ASt→Prop),K2 (e.app dst st2)→AWio P true (.appq esz bytes (.t a0) y i0) dst K2 QP2 st2:=by
    rintro hup ⟨ys,k1,k2,k3,k4,k5,k6,k7⟩
    by_cases hys:ys=[]
    ·refine ⟨.v .nile,k6 hys,(fun i e rows h=>by cases h),(fun h=>by cases h),fun st2 ha K2 QP2 hK=>hup st2 ha K2 QP2 ⟨ys,by rw [happ st2 ha];exact k1,k2,k3,k4,k5,fun _=>hK,fun h=>absurd hys h⟩⟩
    ·refine ⟨.v (.own esz ys),k7 hys,(fun i e rows h=>by cases h),(fun h=>by cases h),fun st2 ha K2 QP2 hK=>hup st2 ha K2 QP2 ⟨ys,by rw [happ st2 ha];exact k1,k2,k3,k4,k5,fun h=>absurd h hys,fun _=>hK⟩⟩
   have h:=h.2
   simp only at h
   split at h
   ·rename_i i' e' rows hv
    obtain ⟨rfl,rfl,m1,m2,m3,d,ys,m4,m5,m6,m7,m8,m9,m10,m11,m12,m13⟩:=h
    subst m4
    refine ⟨.o a0 i' (.d (.sl rows)) (.own e' (rows++ys)),m13,⟨⟨_,_,_,rfl⟩,⟨_,rfl⟩,⟨_,_,rfl⟩,rfl⟩,(fun h=>by cases h),fun st2 ha K2 QP2 hK=>⟨rfl,?_⟩⟩
    simp only
    rw [ha.env a0 ha0,hv]
    refine ⟨rfl,rfl,by rw [ha.env i' hi0];exact m1,m2,ha.nv a0 i' ⟨_,_,_,rfl⟩ m3,d,ys,rfl,m5,m6,?_,by rw [happ st2 ha];exact m8,m9,m10,m11,m12,hK⟩
    intro e r
    rw [ha.env d (by simp [IOp.names])]
    exact m7 e r
   ·rename_i hv
    exact nil (fun st2 ha K2 QP2 h0=>⟨rfl,by simp only;rw [ha.env a0 ha0,hv];exact h0⟩) h
   ·rename_i hv
    exact nil (fun st2 ha K2 QP2 h0=>⟨rfl,by simp only;rw [ha.env a0 ha0,hv];exact h0⟩) h
   ·exact h.elim
 case mkslice=>exact absurd h.1 (by simp)
 case clr=>exact absurd h.1 (by simp)
 case cpy=>exact absurd h.1 (by simp)
 case call f args=>
  obtain ⟨as,h1,h2⟩:=h
  rcases h2 with ⟨cargs,x,k1,k2,k3,k4⟩ | ⟨h,_⟩
  ·refine ⟨.v x,k4,(fun i e rows h=>by subst h;simp [AV.closed,AV.ren] at k3),(fun h=>by cases h),fun st2 ha K2 QP2 hK=>⟨as,?_,.inl ⟨cargs,x,k1,k2,k3,hK⟩⟩⟩
   rw [Jtfe fun t ht=>ha.env t (hn t ht)]
   exact h1
  ·cases h
 case callv y args=>
  obtain ⟨f,as,bs,cs,h1,h2,h3,h4⟩:=h
  rcases h4 with ⟨cargs,x,k1,k2,k3,k4⟩ | ⟨h,_⟩
  ·refine ⟨.v x,k4,(fun i e rows h=>by subst h;simp [AV.closed,AV.ren] at k3),(fun h=>by cases h),fun st2 ha K2 QP2 hK=>⟨f,as,bs,cs,?_,h2,?_,.inl ⟨cargs,x,k1,k2,k3,hK⟩⟩⟩
   ·rw [Jtfc fun t ht=>ha.env t (hn t (by simp only [AO.tmps];exact List.mem_append_left _ ht))];exact h1
   ·rw [Jtfe fun t ht=>ha.env t (hn t (by simp only [AO.tmps];exact List.mem_append_right _ ht))];exact h3
  ·cases h
 case load n y=>
  cases y with
  | c z=>simp [quiet] at hqt
  | t i=>exact val rfl (by intro _ _ h;cases h) rfl (fun _ _ _=>rfl)
 all_goals exact val rfl (by intro _ _ h;cases h) rfl (fun _ _ _=>rfl)
theorem AWop_q{o:IOp}{st:ASt}{K:ASt→Prop}{QP:AV→ASt→Prop}(hq:o.q=true)(hqt:quiet o=true)(h:AWop P o K QP st):
  ∃ e:Eff,K (e.app o.dst st)∧e.ok o st∧(Jtll o=true→∃ k,e=.blk k)∧(∀ d,o.dst=some d→∀ es rows,get st.env d≠some (.own es rows))∧
   ∀ st2,Agree o st st2→∀ (K2:ASt→Prop) (QP2:AV→ASt→Prop),K2 (e.app o.dst st2)→AWop P o.strip K2 QP2 st2:=by
 unfold AWop at h
 obtain ⟨hk,h⟩:=h
 have hown:∀ d,o.dst=some d→∀ es rows,get st.env d≠some (.own es rows):=by
  intro d hd es rows hg
  rcases hk with hk | hk
  ·rw [hq] at hk;cases hk
  ·rw [hd] at hk;simp only [hg] at hk
 have hk2:∀ st2,Agree o st st2→qOk o.q o.dst st2:=by
  intro st2 ha
  refine .inr ?_
  split
  ·trivial
  ·rename_i d hd
   have hdn:d∈o.names:=by simp [IOp.names,hd]
   rw [ha.env d hdn]
   split
   ·rename_i es rows hg
    exact hown d hd es rows hg
   ·trivial
 rw [hq] at h
 split at h
 ·rename_i hgd
  obtain ⟨e,h1,h2,h3,h4⟩:=AWio_q (o:=o) hqt h
  refine ⟨e,h1,h2,fun h=>(h3 h).2.2,hown,fun st2 ha K2 QP2 hK=>?_⟩
  unfold AWop
  rw [Jt1du,Jt1ds,Jt1dt]
  refine ⟨hk2 st2 ha,?_⟩
  rw [hgd,hq]
  exact h4 st2 ha K2 QP2 hK
 ·rename_i t want hgd
  have htn:t∈o.names:=by simp [IOp.names,hgd]
  split at h
  ·rename_i b hb
   by_cases hbw:b=want
   ·obtain ⟨e,h1,h2,h3,h4⟩:=AWio_q (o:=o) hqt (h.1 hbw)
    refine ⟨e,h1,h2,fun h=>(h3 h).2.2,hown,fun st2 ha K2 QP2 hK=>?_⟩
    unfold AWop
    rw [Jt1du,Jt1ds,Jt1dt]
    refine ⟨hk2 st2 ha,?_⟩
    rw [hgd,hq]
    simp only
    rw [ha.env t htn,hb]
    exact ⟨fun _=>h4 st2 ha K2 QP2 hK,fun hn=>absurd hbw hn⟩
   ·refine ⟨.v (.tup []),h.2 hbw,(fun i e rows h=>by cases h),fun hal=>?_,hown,fun st2 ha K2 QP2 hK=>?_⟩
    ·exfalso
     unfold Jtll at hal
     unfold quiet at hqt
     split at hal
     ·rename_i z hz
      rw [hz] at hqt
      simp [hgd] at hqt
     ·cases hal
    ·unfold AWop
     rw [Jt1du,Jt1ds,Jt1dt]
     refine ⟨hk2 st2 ha,?_⟩
     rw [hgd,hq]
     simp only
     rw [ha.env t htn,hb]
     exact ⟨fun hn=>absurd hn hbw,fun _=>hK⟩
  ·rename_i hb
   refine ⟨.v (.tup []),h,(fun i e rows h=>by cases h),fun hal=>?_,hown,fun st2 ha K2 QP2 hK=>?_⟩
   ·exfalso
    unfold Jtll at hal
    unfold quiet at hqt
    split at hal
    ·rename_i z hz
     rw [hz] at hqt
     simp [hgd] at hqt
    ·cases hal
   ·unfold AWop
    rw [Jt1du,Jt1ds,Jt1dt]
    refine ⟨hk2 st2 ha,?_⟩
    rw [hgd,hq]
    simp only
    rw [ha.env t htn,hb]
    exact hK
  ·exact h.elim
end
section
variable {N:Nat} {st st':ASt} {g:Gh} {a:Act} {w:World}
theorem Jt0(he:∀ t,get st'.env t=get st.env t)(hH:st'.H=st.H):AP st'=AP st:=by
 funext p;cases p<;>simp [AP,he,hH]
theorem Jt5d{φ:Nat→Option Nat}(he:∀ t,get st'.env t=get st.env t)(hH:st'.H=st.H){p:Place}{r:Nat}:Owner st' φ a w p r↔Owner st φ a w p r:=by
 simp only [Owner,Jt0 he hH]
theorem Sim.congr(hs:Sim N st g a w)(he:∀ t,get st'.env t=get st.env t)(hH:st'.H=st.H):Sim N st' g a w∧∀ r,Mine st' g a w r↔Mine st g a w r:=by
 refine ⟨{ size:=hs.size,env:=?_,inj:=hs.inj,lt:=?_,dom:=?_,mem:=?_,iter:=?_,glob:=?_,own:=?_,excl:=?_,apart:=?_,view:=?_},?_⟩
 ·intro t x h;rw [he] at h;exact hs.env t x h
 ·intro b r h;rw [hH];exact hs.lt b r h
 ·intro b k h hk;rw [hH] at h;exact hs.dom b k h hk
 ·intro b cs r h hk;rw [hH] at h;exact hs.mem b cs r h hk
 ·intro b s p r h hk;rw [hH] at h;exact hs.iter b s p r h hk
 ·intro b s p r h hk;rw [hH] at h;exact hs.glob b s p r h hk
 ·intro p e rows v h1 h2;rw [Jt0 he hH] at h1;exact hs.own p e rows v h1 h2
 ·intro p p' r h h';exact hs.excl p p' r ((Jt5d he hH).1 h) ((Jt5d he hH).1 h')
 ·intro p r b h;exact hs.apart p r b ((Jt5d he hH).1 h)
 ·intro t org e rows h;rw [he] at h;rw [Jt0 he hH];exact hs.view t org e rows h
 ·intro r;simp only [Mine,Jt5d he hH]
end
def look(S:Nat→Bool)(t:Nat):Nat→List (List (Nat × AV))→Option AV→Option AV
 | _,[],base=>base
 | p,w::r,base=>look S t (p+1) r (if S p=true∧(get w t).isSome=true then get w t else base)
theorem Jtpz{S S':Nat→Bool}{t:Nat}:∀ {ws:List (List (Nat × AV))} {p:Nat} {base:Option AV},(∀ q y,ws[q]?=some y→(get y t).isSome=true→S (p+q)=S' (p+q))→look S t p ws base=look S' t p ws base:=by
 intro ws
 induction ws with
 | nil=>intros;rfl
 | cons y ws ih=>
  intro p base h
  simp only [look]
  have h0:(if S p=true∧(get y t).isSome=true then get y t else base)=(if S' p=true∧(get y t).isSome=true then get y t else base):=by
   by_cases hd:(get y t).isSome=true
   ·have:=h 0 y rfl hd
    simp only [Nat.add_zero] at this
    rw [this]
   ·simp [hd]
  rw [h0]
  exact ih fun q y hq hy=>by
   have:=h (q+1) y (by simpa using hq) hy
   rw [show p+1+q=p+(q+1) by omega];exact this
theorem Jtq0{S:Nat→Bool}{t:Nat}:∀ {ws:List (List (Nat × AV))} {p:Nat} {base:Option AV},(∀ q y,ws[q]?=some y→(get y t).isSome=true→S (p+q)=false)→look S t p ws base=base:=by
 intro ws
 induction ws with
 | nil=>intros;rfl
 | cons y ws ih=>
  intro p base h
  simp only [look]
  rw [ih fun q y hq hy=>by
   have:=h (q+1) y (by simpa using hq) hy
   rw [show p+1+q=p+(q+1) by omega];exact this]
  rw [if_neg]
  rintro ⟨h1,h2⟩
  have:=h 0 y rfl h2
  simp only [Nat.add_zero] at this
  rw [this] at h1;cases h1
theorem Jtq1{S':Nat→Bool}{t:Nat}{x:AV}{w:List (Nat × AV)} (hx:get w t=some x):∀ {ws:List (List (Nat × AV))} {i p:Nat} {base:Option AV},ws[i]?=some w→S' (p+i)=true→
  (∀ q y,i<q→ws[q]?=some y→(get y t).isSome=true→S' (p+q)=false)→look S' t p ws base=some x:=by
 intro ws
 induction ws with
 | nil=>intro i p base h;simp at h
 | cons y ws ih=>
  intro i p base h hi hq
  simp only [look]
  cases i with
  | zero=>
   simp only [List.getElem?_cons_zero,Option.some.injEq] at h
   subst h
   rw [Jtq0 fun q y hy hw=>by
    have:=hq (q+1) y (by omega) (by simpa using hy) hw
    rw [show p+1+q=p+(q+1) by omega];exact this]
   rw [if_pos ⟨by simpa using hi,by rw [hx];rfl⟩]
   exact hx
  | succ i=>
   exact ih (i:=i) (by simpa using h) (by rw [show p+1+i=p+(i+1) by omega];exact hi) fun q y hlt hy hw=>by
    have:=hq (q+1) y (by omega) (by simpa using hy) hw
    rw [show p+1+q=p+(q+1) by omega];exact this
theorem Jtq2{S:Nat→Bool}{t:Nat}{x:AV}:∀ {ws:List (List (Nat × AV))} {p:Nat} {base:Option AV},look S t p ws base=some x→base=some x∨∃ q w,ws[q]?=some w∧S (p+q)=true∧get w t=some x:=by
 intro ws
 induction ws with
 | nil=>intro p base h;exact .inl h
 | cons y ws ih=>
  intro p base h
  simp only [look] at h
  rcases ih h with h | ⟨q,w,h1,h2,h3⟩
  ·split at h
   ·rename_i hc
    exact .inr ⟨0,y,rfl,by simpa using hc.1,h⟩
   ·exact .inl h
  ·exact .inr ⟨q+1,w,by simpa using h1,by rw [show p+(q+1)=p+1+q by omega];exact h2,h3⟩
def Eff.ws(h0:Nat)(dst:Option Nat):Eff→List (Nat × AV)
 | .v x=>match dst with | some d=>[(d,x)] | none=>[]
 | .blk _=>match dst with | some d=>[(d,.ptr h0 0)] | none=>[]
 | .o a i z x=>match dst with | some d=>[(d,x),(a,z),(i,z)] | none=>[]
 | .s _ _ _=>[]
def wss(h0:Nat):List (Option Nat)→List Eff→List (List (Nat × AV))
 | d::ds,e::es=>e.ws h0 d::wss h0 ds es
 | _,_=>[]
theorem Jt1lh{h0:Nat}:∀ {ds:List (Option Nat)} {es:List Eff} {i:Nat} {w:List (Nat × AV)},(wss h0 ds es)[i]?=some w↔∃ d e,ds[i]?=some d∧es[i]?=some e∧w=e.ws h0 d:=by
 intro ds
 induction ds with
 | nil=>intro es i w;simp [wss]
 | cons a ds ih=>
  intro es i w
  cases es with
  | nil=>simp [wss]
  | cons b es=>
   cases i with
   | zero=>simp [wss,eq_comm]
   | succ i=>simp only [wss,List.getElem?_cons_succ];exact ih
def cellB(H:List Blk)(b c:Nat):Option AV:=match H[b]? with
 | some (.mem cells)=>cells[c]?
 | _=>none
theorem Jt1dm{b off:Nat}{ys:List AV}{H:List Blk}{b':Nat}:(stor b off ys H)[b']?=if b'=b then (match H[b]? with | some (.mem cells)=>some (.mem (wr cells off ys)) | x=>x) else H[b']?:=by
  unfold stor
  split
  · rename_i cells hb
    have hlt:=(lgS.1 hb).1
    by_cases h:b'=b
    · subst h;first | (rw [if_pos rfl,List.getElem?_set_self hlt,hb];done) | (rw [if_pos rfl,List.getElem?_set_self hlt];done)
    · rw [if_neg h,List.getElem?_set_ne (Ne.symm h)]
  · rename_i hn
    by_cases h:b'=b
    · subst h;first
        | (rw [if_pos rfl];done)
        | (rw [if_pos rfl];split
           · rename_i cells hb;exact absurd hb (hn cells)
           · rfl)
    · rw [if_neg h]
theorem Jtad{b off:Nat}{ys:List AV}{H:List Blk}{b' c:Nat}:cellB (stor b off ys H) b' c=if b'=b∧off≤c∧c<off+ys.length∧(cellB H b c).isSome=true then ys[c-off]? else cellB H b' c:=by
 unfold cellB
 rw [Jt1dm]
 by_cases h:b'=b
 ·subst h
  rw [if_pos rfl]
  cases hb:H[b']? with
  | none=>simp
  | some k=>
   cases k with
   | mem cells=>
    simp only [wr_get]
    by_cases hc:off≤c∧c<off+ys.length∧c<cells.length
    ·rw [if_pos hc,if_pos ⟨trivial,hc.1,hc.2.1,by rw [lgE hc.2.2];rfl⟩]
    ·rw [if_neg hc,if_neg]
     rintro ⟨_,h1,h2,h3⟩
     refine hc ⟨h1,h2,?_⟩
     obtain ⟨x,hx⟩:=Option.isSome_iff_exists.1 h3
     exact (lgS.1 hx).1
   | _=>simp
 ·rw [if_neg h,if_neg (fun h'=>h h'.1)]
def hst(S:Nat→Bool):Nat→List Eff→List Blk→List Blk
 | _,[],H=>H
 | p,.s b off ys::es,H=>hst S (p+1) es (if S p=true then stor b off ys H else H)
 | p,_::es,H=>hst S (p+1) es H
def Eff.isS:Eff→Bool
 | .s ..=>true
 | _=>false
theorem Jthf{S:Nat→Bool}{p:Nat}{e:Eff}{es:List Eff}{H:List Blk}:hst S p (e::es) H=hst S (p+1) es (match e with | .s b off ys=>if S p=true then stor b off ys H else H | _=>H):=by
 cases e<;>rfl
theorem Jthe{S S':Nat→Bool}:∀ {es:List Eff} {p:Nat} {H:List Blk},(∀ q b off ys,es[q]?=some (.s b off ys)→S (p+q)=S' (p+q))→hst S p es H=hst S' p es H:=by
 intro es
 induction es with
 | nil=>intros;rfl
 | cons e es ih=>
  intro p H h
  rw [Jthf,Jthf]
  have hr:∀ H,hst S (p+1) es H=hst S' (p+1) es H:=fun H=>ih fun q b off ys hq=>by
   rw [show p+1+q=p+(q+1) by omega];exact h (q+1) b off ys hq
  rw [hr]
  cases e with
  | s b off ys=>have:=h 0 b off ys rfl;rw [Nat.add_zero] at this;simp only [this]
  | _=>rfl
theorem Jthi{S:Nat→Bool}:∀ {es:List Eff} {p:Nat} {H:List Blk},(∀ q b off ys,es[q]?=some (.s b off ys)→S (p+q)=false)→hst S p es H=H:=by
 intro es
 induction es with
 | nil=>intros;rfl
 | cons e es ih=>
  intro p H h
  rw [Jthf,ih fun q b off ys hq=>by rw [show p+1+q=p+(q+1) by omega];exact h (q+1) b off ys hq]
  cases e with
  | s b off ys=>have:=h 0 b off ys rfl;rw [Nat.add_zero] at this;simp only [this];rfl
  | _=>rfl
theorem Jthk{S S':Nat→Bool}{b off:Nat}{ys:List AV}:∀ {es:List Eff} {i p:Nat} {H:List Blk},es[i]?=some (.s b off ys)→S (p+i)=false→S' (p+i)=true→(∀ q,q≠i→S' (p+q)=S (p+q))→
  (∀ q b' off' ys',i<q→es[q]?=some (.s b' off' ys')→S (p+q)=false)→hst S' p es H=stor b off ys (hst S p es H):=by
 intro es
 induction es with
 | nil=>intro i p H h;simp at h
 | cons e es ih=>
  intro i p H hi h1 h2 h3 h4
  cases i with
  | zero=>
   simp only [List.getElem?_cons_zero,Option.some.injEq] at hi
   subst hi
   rw [Nat.add_zero] at h1 h2
   rw [Jthf,Jthf]
   simp only [h1,h2,if_true,Bool.false_eq_true,if_false]
   rw [Jthi,Jthi]
   ·intro q b' off' ys' hq
    rw [show p+1+q=p+(q+1) by omega];exact h4 (q+1) b' off' ys' (by omega) hq
   ·intro q b' off' ys' hq
    rw [show p+1+q=p+(q+1) by omega,h3 (q+1) (by omega)];exact h4 (q+1) b' off' ys' (by omega) hq
  | succ i=>
   have hp:=h3 0 (by omega)
   rw [Nat.add_zero] at hp
   rw [Jthf,Jthf]
   rw [ih (i:=i) (by simpa using hi) (by rw [show p+1+i=p+(i+1) by omega];exact h1) (by rw [show p+1+i=p+(i+1) by omega];exact h2)
    (fun q hq=>by rw [show p+1+q=p+(q+1) by omega];exact h3 (q+1) (by omega))
    (fun q b' off' ys' hlt hq=>by rw [show p+1+q=p+(q+1) by omega];exact h4 (q+1) b' off' ys' (by omega) hq)]
   cases e with
   | s b1 off1 ys1=>simp only [hp]
   | _=>rfl
theorem Jthd{S S':Nat→Bool}{b c:Nat}:∀ {es:List Eff} {p:Nat} {H H':List Blk},cellB H b c=cellB H' b c→(∀ q off ys,es[q]?=some (.s b off ys)→off≤c→c<off+ys.length→S (p+q)=S' (p+q))→
  cellB (hst S p es H) b c=cellB (hst S' p es H') b c:=by
 intro es
 induction es with
 | nil=>intro p H H' h _;exact h
 | cons e es ih=>
  intro p H H' h hs
  rw [Jthf,Jthf]
  refine ih ?_ fun q off ys hq h1 h2=>by rw [show p+1+q=p+(q+1) by omega];exact hs (q+1) off ys hq h1 h2
  cases e with
  | s b1 off1 ys1=>
   simp only
   by_cases hcov:b=b1∧off1≤c∧c<off1+ys1.length
   ·obtain ⟨rfl,k1,k2⟩:=hcov
    have:=hs 0 off1 ys1 rfl k1 k2
    rw [Nat.add_zero] at this
    rw [this]
    split
    ·rw [Jtad,Jtad,h]
    ·exact h
   ·have hno:∀ H,cellB (stor b1 off1 ys1 H) b c=cellB H b c:=fun H=>by
     rw [Jtad,if_neg fun h'=>hcov ⟨h'.1,h'.2.1,h'.2.2.1⟩]
    split<;>split<;>first|exact h | (rw [hno,hno];exact h) | (rw [hno];exact h)
  | _=>exact h
theorem Jthh{S:Nat→Bool}{b:Nat}:∀ {es:List Eff} {p:Nat} {H:List Blk},(∀ cells,H[b]?=some (.mem cells)→∃ cells2,(hst S p es H)[b]?=some (.mem cells2)∧cells2.length=cells.length)∧
  (∀ cells2,(hst S p es H)[b]?=some (.mem cells2)→∃ cells,H[b]?=some (.mem cells)∧cells2.length=cells.length):=by
 intro es
 induction es with
 | nil=>intro p H;exact ⟨fun cells h=>⟨cells,h,rfl⟩,fun cells h=>⟨cells,h,rfl⟩⟩
 | cons e es ih=>
  intro p H
  rw [Jthf]
  have key:∀ H1:List Blk,(∀ cells,H[b]?=some (.mem cells)→∃ cells2,H1[b]?=some (.mem cells2)∧cells2.length=cells.length)→(∀ cells2,H1[b]?=some (.mem cells2)→∃ cells,H[b]?=some (.mem cells)∧cells2.length=cells.length)→
    (∀ cells,H[b]?=some (.mem cells)→∃ cells2,(hst S (p+1) es H1)[b]?=some (.mem cells2)∧cells2.length=cells.length)∧
    (∀ cells2,(hst S (p+1) es H1)[b]?=some (.mem cells2)→∃ cells,H[b]?=some (.mem cells)∧cells2.length=cells.length):=by
   intro H1 k1 k2
   obtain ⟨m1,m2⟩:=ih (p:=p+1) (H:=H1)
   refine ⟨fun cells h=>?_,fun cells2 h=>?_⟩
   ·obtain ⟨c1,l1,l2⟩:=k1 cells h
    obtain ⟨c2,l3,l4⟩:=m1 c1 l1
    exact ⟨c2,l3,l4.trans l2⟩
   ·obtain ⟨c1,l1,l2⟩:=m2 cells2 h
    obtain ⟨c2,l3,l4⟩:=k2 c1 l1
    exact ⟨c2,l3,l2.trans l4⟩
  have same:=key H (fun cells h=>⟨cells,h,rfl⟩) (fun cells h=>⟨cells,h,rfl⟩)
  cases e with
  | s b1 off1 ys1=>
   simp only
   split
   ·refine key _ (fun cells h=>?_) (fun cells2 h=>?_)
    ·rw [Jt1dm]
     by_cases hb:b=b1
     ·subst hb;rw [if_pos rfl,h];exact ⟨_,rfl,Jt1lc⟩
     ·rw [if_neg hb];exact ⟨cells,h,rfl⟩
    ·rw [Jt1dm] at h
     by_cases hb:b=b1
     ·subst hb
      rw [if_pos rfl] at h
      split at h
      ·rename_i cells hc
       injection h with h;injection h with h;subst h
       exact ⟨cells,hc,Jt1lc⟩
      ·rename_i hn
       exact absurd h (hn cells2)
     ·rw [if_neg hb] at h;exact ⟨cells2,h,rfl⟩
   ·exact same
  | _=>exact same
theorem Jthj{S:Nat→Bool}{b c e0:Nat}{r0:List (List D)}:∀ {es:List Eff} {p:Nat} {H:List Blk},(∀ (q b' off:Nat) (ys:List AV),es[q]?=some (Eff.s b' off ys)→∀ y∈ys,∀ (e:Nat) (r:List (List D)),y≠AV.own e r)→cellB (hst S p es H) b c=some (.own e0 r0)→cellB H b c=some (.own e0 r0):=by
 intro es
 induction es with
 | nil=>intro p H _ h;exact h
 | cons e es ih=>
  intro p H hy h
  rw [Jthf] at h
  have:=ih (fun q b' off ys hq=>hy (q+1) b' off ys hq) h
  cases e with
  | s b1 off1 ys1=>
   simp only at this
   split at this
   ·rw [Jtad] at this
    split at this
    ·exact absurd rfl (hy 0 b1 off1 ys1 rfl _ (lmG this) e0 r0)
    ·exact this
   ·exact this
  | _=>exact this
structure DInv (st0:ASt) (ds:List (Option Nat)) (es:List Eff) (S:Nat→Bool) (st:ASt):Prop where
 env:∀ t,get st.env t=look S t 0 (wss st0.H.length ds es) (get st0.env t)
 yes:∀ (i:Nat) (k:Blk),es[i]?=some (.blk k)→st.H=hst S 0 es (if S i then st0.H++[k] else st0.H)
 no:(∀ (i:Nat) (k:Blk),es[i]?≠some (.blk k))→st.H=hst S 0 es st0.H
def One(es:List Eff):Prop:=∀ (i j:Nat) (k k':Blk),es[i]?=some (.blk k)→es[j]?=some (.blk k')→i=j
theorem DInv.step{st0 st:ASt}{ds:List (Option Nat)} {es:List Eff} {S:Nat→Bool} (h:DInv st0 ds es S st) (hone:One es) {i:Nat} {d:Option Nat} {e:Eff} (hd:ds[i]?=some d) (he:es[i]?=some e) (hS:S i=false)
  (hlater:∀ t q w,(get (e.ws st0.H.length d) t).isSome=true→i<q→(wss st0.H.length ds es)[q]?=some w→(get w t).isSome=true→S q=false) (hown:∀ t,d=some t→∀ es rows,get st.env t≠some (.own es rows))
  (hlS:e.isS=true→∀ q b off ys,i<q→es[q]?=some (.s b off ys)→S q=false) (hbS:∀ k,e=.blk k→∀ q b off ys,es[q]?=some (.s b off ys)→S q=false) :
  DInv st0 ds es (fun q=>S q||q==i) (e.app d st):=by
 have hcong:e.isS=false→∀ H,hst (fun q=>S q||q==i) 0 es H=hst S 0 es H:=by
  intro hs H
  refine Jthe fun q b off ys hq=>?_
  have:q≠i:=by rintro rfl;rw [he] at hq;injection hq with hq;subst hq;cases hs
  simp [this]
 have hput:∀ x (s:ASt),(∀ t,d=some t→∀ es rows,get s.env t≠some (.own es rows))→∀ t,get (put d x s).env t=if d=some t then some x else get s.env t:=by
  intro x s hs t
  cases d with
  | none=>simp [put]
  | some u=>
   simp only [put]
   split
   ·rename_i e0 r0 hu;exact absurd hu (hs u rfl e0 r0)
   ·simp only [get,Option.some.injEq]
 have hval:(wss st0.H.length ds es)[i]?=some (e.ws st0.H.length d):=Jt1lh.2 ⟨d,e,hd,he,rfl⟩
 have hlook:∀ t,look (fun q=>S q||q==i) t 0 (wss st0.H.length ds es) (get st0.env t)=if (get (e.ws st0.H.length d) t).isSome=true then get (e.ws st0.H.length d) t else get st.env t:=by
  intro t
  by_cases hdt:(get (e.ws st0.H.length d) t).isSome=true
  ·rw [if_pos hdt]
   obtain ⟨x,hx⟩:=Option.isSome_iff_exists.1 hdt
   rw [hx]
   refine Jtq1 hx hval (by simp) fun q y hlt hy hw=>?_
   have:=hlater t q y hdt hlt hy hw
   simp only [Nat.zero_add,this,Bool.false_or,beq_eq_false_iff_ne,ne_eq]
   omega
  ·rw [if_neg hdt,h.env]
   refine Jtpz fun q y hy hw=>?_
   have:q≠i:=by
    intro hqi;subst hqi
    rw [hval] at hy;injection hy with hy;subst hy
    exact hdt hw
   simp [this]
 cases e with
 | v x=>
  refine ⟨fun t=>?_,fun j k hj=>?_,fun hn=>?_⟩
  ·rw [hlook]
   show get (put d x st).env t=_
   rw [hput x st hown t]
   cases d with
   | none=>simp [Eff.ws,get]
   | some u=>
    by_cases hu:u=t
    ·subst hu;simp [Eff.ws,get]
    ·simp [Eff.ws,get,hu]
  ·show (put d x st).H=_
   rw [put_H,h.yes j k hj,hcong rfl]
   have:j≠i:=by intro hji;subst hji;rw [he] at hj;cases hj
   simp [this]
  ·show (put d x st).H=_
   rw [put_H,h.no hn,hcong rfl]
 | blk k=>
  have hH:st.H=st0.H:=by have:=h.yes i k he;rw [hS,Jthi fun q b off ys hq=>by rw [Nat.zero_add];exact hbS k rfl q b off ys hq] at this;simpa using this
  refine ⟨fun t=>?_,fun j k' hj=>?_,fun hn=>absurd he (hn i k)⟩
  ·rw [hlook]
   have:=hput (.ptr st.H.length 0) ⟨st.env,st.H++[k]⟩ hown t
   rw [hH] at this
   show get (put d (.ptr st.H.length 0) ⟨st.env,st.H++[k]⟩).env t=_
   rw [hH,this]
   cases d with
   | none=>simp [Eff.ws,get]
   | some u=>
    by_cases hu:u=t
    ·subst hu;simp [Eff.ws,get]
    ·simp [Eff.ws,get,hu]
  ·have hji:=hone j i k' k hj he
   subst hji
   rw [he] at hj;injection hj with hj;injection hj with hj;subst hj
   show (put d (.ptr st.H.length 0) ⟨st.env,st.H++[k]⟩).H=_
   rw [put_H,hcong rfl,Jthi fun q b off ys hq=>by rw [Nat.zero_add];exact hbS k rfl q b off ys hq]
   simp [hH]
 | o a0 i0 z x=>
  have happ:(Eff.app d (.o a0 i0 z x) st).H=st.H:=by cases d<;>rfl
  refine ⟨fun t=>?_,fun j k hj=>?_,fun hn=>?_⟩
  ·rw [hlook]
   cases d with
   | none=>simp [Eff.ws,get,Eff.app]
   | some u=>
    show get ((u,x)::(a0,z)::(i0,z)::st.env) t=_
    simp only [Eff.ws,get]
    by_cases h1:u=t
    ·simp [h1]
    ·by_cases h2:a0=t
     ·simp [h1,h2]
     ·by_cases h3:i0=t
      ·simp [h1,h2,h3]
      ·simp [h1,h2,h3]
  ·rw [happ,h.yes j k hj,hcong rfl]
   have:j≠i:=by intro hji;subst hji;rw [he] at hj;cases hj
   simp [this]
  ·rw [happ,h.no hn,hcong rfl]
 | s b off ys=>
  refine ⟨fun t=>?_,fun j k hj=>?_,fun hn=>?_⟩
  ·rw [hlook]
   show get st.env t=_
   simp [Eff.ws,get]
  ·show stor b off ys st.H=_
   have hji:j≠i:=by intro hji;subst hji;rw [he] at hj;cases hj
   have hb:(S j||j==i)=S j:=by simp [hji]
   rw [h.yes j k hj]
   show _=hst (fun q=>S q||q==i) 0 es (if (S j||j==i)=true then st0.H++[k] else st0.H)
   rw [hb]
   exact (Jthk he (by simpa using hS) (by simp) (fun q hq=>by simp [hq]) (fun q b' off' ys' hlt hq=>by simpa using hlS rfl q b' off' ys' hlt hq)).symm
  ·show stor b off ys st.H=_
   rw [h.no hn]
   exact (Jthk he (by simpa using hS) (by simp) (fun q hq=>by simp [hq]) (fun q b' off' ys' hlt hq=>by simpa using hlS rfl q b' off' ys' hlt hq)).symm
theorem DInv.base{st0 st:ASt}{ds:List (Option Nat)} {es:List Eff} {S:Nat→Bool} (h:DInv st0 ds es S st):∃ B:List Blk,st.H=hst S 0 es B∧(B=st0.H∨∃ (i:Nat) (k:Blk),es[i]?=some (.blk k)∧B=st0.H++[k]):=by
 by_cases hex:∃ (i:Nat) (k:Blk),es[i]?=some (.blk k)
 ·obtain ⟨i,k,hi⟩:=hex
  have:=h.yes i k hi
  cases hs:S i with
  | true=>rw [hs] at this;exact ⟨_,this,.inr ⟨i,k,hi,by simp⟩⟩
  | false=>rw [hs] at this;exact ⟨_,this,.inl (by simp)⟩
 ·exact ⟨_,h.no fun i k hi=>hex ⟨i,k,hi⟩,.inl rfl⟩
theorem Jt7v{st0:ASt}{es:List Eff}(hone:One es){B B':List Blk}(h:B=st0.H∨∃ (i:Nat) (k:Blk),es[i]?=some (.blk k)∧B=st0.H++[k]) (h':B'=st0.H∨∃ (i:Nat) (k:Blk),es[i]?=some (.blk k)∧B'=st0.H++[k])
  {b:Nat} (hb:b<B.length) (hb':b<B'.length):B[b]?=B'[b]?:=by
 rcases h with rfl | ⟨i,k,hi,rfl⟩<;>rcases h' with rfl | ⟨i',k',hi',rfl⟩
 ·rfl
 ·rw [lgA hb]
 ·rw [lgA hb']
 ·have:=hone i i' k k' hi hi'
  subst this
  rw [hi] at hi';injection hi' with hi';injection hi' with hi';subst hi';rfl
theorem Jthg{S:Nat→Bool}:∀ {es:List Eff} {p:Nat} {H:List Blk},(hst S p es H).length=H.length:=by
 intro es
 induction es with
 | nil=>intros;rfl
 | cons e es ih=>
  intro p H
  rw [Jthf,ih]
  cases e with
  | s b off ys=>
   simp only
   split
   ·unfold stor;split
    ·rw [List.length_set]
    ·rfl
   ·rfl
  | _=>rfl
theorem Jt7l:∀ (ops:List Oper) (acc:List (List Nat)) (j:Nat),j<acc.length→(ancs ops acc).getD j []=acc.getD j []:=by
 intro ops
 induction ops with
 | nil=>intro acc j h;rfl
 | cons o ops ih=>
  intro acc j h
  simp only [ancs]
  rw [ih _ j (by simp;omega),List.getD_eq_getElem?_getD,lgA h,List.getD_eq_getElem?_getD]
theorem Jt7k:∀ (ops:List Oper) (acc:List (List Nat)) (j c:Nat),c∈(ancs ops acc).getD j []→acc.length≤j→
  ∃ o,ops[j-acc.length]?=some o∧∃ e∈o.after.toList,Region.binds .any e=true∧(c=e.on∨(e.on<j∧c∈(ancs ops acc).getD e.on [])):=by
 intro ops
 induction ops with
 | nil=>intro acc j c h hj;simp only [ancs] at h;rw [List.getD_eq_getElem?_getD,List.getElem?_eq_none hj] at h;simp at h
 | cons o ops ih=>
  intro acc j c h hj
  simp only [ancs] at h ⊢
  by_cases hjl:j=acc.length
  ·subst hjl
   rw [Jt7l _ _ _ (by simp)] at h
   simp only [List.getD_eq_getElem?_getD,List.getElem?_concat_length,Option.getD_some,List.mem_eraseDups,List.mem_flatMap,List.mem_filter] at h
   obtain ⟨e,⟨he,hb⟩,hc⟩:=h
   refine ⟨o,by simp,e,he,hb,?_⟩
   rcases List.mem_cons.1 hc with hc | hc
   ·exact .inl hc
   ·right
    have hlt:e.on<acc.length:=by
     by_cases hlt:e.on<acc.length
     ·exact hlt
     ·rw [List.getElem?_eq_none (by omega)] at hc;simp at hc
    refine ⟨hlt,?_⟩
    rw [Jt7l _ _ _ (by simp;omega),List.getD_eq_getElem?_getD,lgA hlt]
    exact hc
  ·obtain ⟨o',h1,h2⟩:=ih _ j c h (by simp;omega)
   refine ⟨o',?_,h2⟩
   simp only [List.length_append,List.length_singleton] at h1
   rw [show j-acc.length=(j-(acc.length+1))+1 by omega,List.getElem?_cons_succ]
   exact h1
theorem Jt7j{ops:List Oper}{j c:Nat}(h:c∈(ancs ops []).getD j []):∃ o,ops[j]?=some o∧∃ e∈o.after.toList,Region.binds .any e=true∧(c=e.on∨(e.on<j∧c∈(ancs ops []).getD e.on [])):=by
 have:=Jt7k ops [] j c h (by simp)
 simpa using this
theorem Jtew{ops:List Oper}(h:Jtev ops=true){j:Nat}{o:Oper}(ho:ops[j]?=some o):∀ e∈o.after.toList,Region.binds .any e=true→e.on<j:=by
 intro e he hb
 unfold Jtev at h
 rw [List.all_eq_true] at h
 have:=h j (List.mem_range.2 (lgS.1 ho).1)
 rw [ho] at this
 simp only [←Array.all_toList,List.all_eq_true] at this
 have:=this e he
 simpa [hb] using this
theorem anc_lt{ops:List Oper}(h:Jtev ops=true):∀ (j c:Nat),c∈(ancs ops []).getD j []→c<j:=by
 intro j
 induction j using Nat.strongRecOn with
 | _ j ih=>
  intro c hc
  obtain ⟨o,ho,e,he,hb,hc⟩:=Jt7j hc
  have:=Jtew h ho e he hb
  rcases hc with rfl | ⟨h1,h2⟩
  ·exact this
  ·have:=ih e.on h1 c h2;omega
theorem Jts9 {A:List (List Nat)} {n:Nat}:∀ (ios:List IOp) (j0 j:Nat),(marked A n j0 ios)[j]?=(ios[j]?).map fun o=>{ o with q:=!Jt7u A n (j0+j)}:=by
 intro ios
 induction ios with
 | nil=>intro j0 j;simp [marked]
 | cons o ios ih=>
  intro j0 j
  simp only [marked]
  cases j with
  | zero=>simp
  | succ j=>simp only [List.getElem?_cons_succ,ih];rw [show j0+1+j=j0+(j+1) by omega]
theorem Jta7{P:Program}{N:Nat}{ops:Array Oper}:∀ {os:List Oper} {ios:List IOp},cOpers P N ops os=some ios→ios.length=os.length∧∀ (j:Nat) (o:Oper),os[j]?=some o→∃ io,ios[j]?=some io∧cOper P N ops o=some io:=by
 intro os
 induction os with
 | nil=>intro ios h;simp [cOpers] at h;subst h;exact ⟨rfl,fun j o h=>by simp at h⟩
 | cons o os ih=>
  intro ios h
  simp only [cOpers] at h
  split at h
  ·rename_i x xs hx hxs
   injection h with h;subst h
   obtain ⟨h1,h2⟩:=ih hxs
   refine ⟨by simp [h1],fun j o' ho'=>?_⟩
   cases j with
   | zero=>simp at ho';subst ho';exact ⟨x,rfl,hx⟩
   | succ j=>simp at ho';simpa using h2 j o' ho'
  ·cases h
theorem Jtsu{ops:Array Oper}{listed:Array Bool}{i:Nat}(hsz:listed.size=ops.size):i∈Region.ready .any ops listed↔
  listed.getD i true=false∧∃ o,ops[i]?=some o∧∀ e∈o.after.toList,Region.binds .any e=true→listed.getD e.on false=true:=by
 unfold Region.ready
 simp only [List.mem_filter,List.mem_range,Bool.and_eq_true,Bool.not_eq_true']
 constructor
 ·rintro ⟨h1,h2,h3⟩
  refine ⟨h2,?_⟩
  cases ho:ops[i]? with
  | none=>rw [ho] at h3;simp at h3
  | some o=>
   rw [ho] at h3
   simp only [Option.map_some,Option.getD_some,←Array.all_toList,List.all_eq_true,Bool.or_eq_true,Bool.not_eq_true'] at h3
   refine ⟨o,rfl,fun e he hb=>?_⟩
   rcases h3 e he with h | h
   ·rw [hb] at h;cases h
   ·exact h
 ·rintro ⟨h1,o,ho,h2⟩
  refine ⟨(Array.getElem?_eq_some_iff.1 ho).1,h1,?_⟩
  rw [ho]
  simp only [Option.map_some,Option.getD_some,←Array.all_toList,List.all_eq_true,Bool.or_eq_true,Bool.not_eq_true']
  intro e he
  cases hb:Region.binds .any e with
  | false=>exact .inl rfl
  | true=>exact .inr (h2 e he hb)
theorem Jtgm{l:Array Bool}{i:Nat}(h:i<l.size):l.getD i true=l.getD i false:=by
 simp [Array.getD,h]
theorem Jtgl{l:Array Bool}{i:Nat}(h:i<l.size)(j:Nat):(l.setIfInBounds i true).getD j false=(l.getD j false||j==i):=by
 simp only [Array.getD_eq_getD_getElem?,Array.getElem?_setIfInBounds]
 by_cases hij:i=j
 ·subst hij;simp [h]
 ·have:j≠i:=fun h=>hij h.symm
  simp [hij,this]
theorem Jtyb{ops:Array Oper}{listed:Array Bool}(hsz:listed.size=ops.size)(he:Jtev ops.toList=true):∀ (j:Nat),j<ops.size→listed.getD j false=false→Region.ready .any ops listed≠[]:=by
 intro j
 induction j using Nat.strongRecOn with
 | _ j ih=>
  intro hj hl hnil
  have ho:ops.toList[j]?=some ops[j]:=by rw [Array.getElem?_toList];simp [hj]
  by_cases hall:∀ e∈ops[j].after.toList,Region.binds .any e=true→listed.getD e.on false=true
  ·have:j∈Region.ready .any ops listed:=(Jtsu hsz).2 ⟨by rw [Jtgm (by omega)];exact hl,ops[j],by simp [hj],hall⟩
   rw [hnil] at this;simp at this
  ·simp only [Classical.not_forall] at hall
   obtain ⟨e,h1,h2,h3⟩:=hall
   have hlt:=Jtew he ho e h1 h2
   exact ih e.on hlt (by omega) (by simpa using h3) hnil
structure Facts (P:Program) (N:Nat) (ops:Array Oper) (A:List (List Nat)) (ios:List IOp):Prop where
 len:ios.length=ops.size
 anc:A=ancs ops.toList []
 op:∀ (j:Nat) (o:Oper),ops[j]?=some o→∃ io io0:IOp,ios[j]?=some io∧cOper P N ops o=some io0∧Turned io0 io
 quiet:∀ (j:Nat) (io:IOp),ios[j]?=some io→io.q=true→Go.AE.quiet io=true
 alloc:∀ (i j:Nat) (x y:IOp),ios[i]?=some x→ios[j]?=some y→x.q=true→y.q=true→Jtll x=true→Jtll y=true→i=j
 dep:∀ (i j:Nat) (x y:IOp),i<j→ios[i]?=some x→ios[j]?=some y→Jtck x y=true→i∈A.getD j []
 bar:∀ (i j:Nat) (io:IOp),ios[j]?=some io→io.q=false→i<ios.length→(i<j→i∈A.getD j [])∧(j<i→j∈A.getD i [])
 edges:Jtev ops.toList=true
 hv:∀ (h:Nat) (x:IOp) (a i:Nat),ios[h]?=some x→Jth7 x a i→(∀ m o,m<h→ios[m]?=some o→o.q=true)∧(∀ m o b j,ios[m]?=some o→Jth7 o b j→m=h)∧
  (∀ m o u,ios[m]?=some o→o.io=.mov (.t u)→m∈A.getD h []→(u=i→∀ d,o.dst=some d→d=a)∧u≠a)
 sq:∀ (h:Nat) (x:IOp) (n:Nat) (y v:Opd) (ls:List (Nat × Nat)),ios[h]?=some x→x.io=.storeq n y v ls→
  (∀ (m:Nat) (o:IOp),ios[m]?=some o→o.q=true→Jtll o=true→m∈A.getD h [])∧(∀ (m:Nat) (o:IOp) (n':Nat) (y' v':Opd) (ls':List (Nat × Nat)),ios[m]?=some o→o.io=.storeq n' y' v' ls'→h<m→h∈A.getD m [])∧
  (∀ (m:Nat) (o:IOp) (k:Option Nat) (t:Nat),ios[m]?=some o→o.io=.load k (.t t)→(m<h→m∈A.getD h []∨((t,k.getD 1)∈ls∧∀ (p:Nat) (o':IOp),m≤p→p<h→ios[p]?=some o'→t∉o'.writes))∧(¬ m<h→h∈A.getD m []))
section
variable {P:Program} {N:Nat}
theorem Jt17t{α:Type}{l:List α}(h:l.length≤1){x y:α}(hx:x∈l)(hy:y∈l):x=y:=by
 match l,h with
 | [],_=>simp at hx
 | [z],_=>simp at hx hy;rw [hx,hy]
def Turn1(io0 io1:IOp):Prop:=io1=io0∨(∃ n x v ls q0,io0=⟨none,.store n x v,none,q0⟩∧io1=⟨none,.storeq n x v ls,none,q0⟩)∨∃ d e b a y i q0,io0=⟨some d,.app e b (.t a) y,none,q0⟩∧io1=⟨some d,.appq e b (.t a) y i,none,q0⟩
theorem Jtfn{ops:Array Oper}{ios0 ios1:List IOp}(hc:cOpers P N ops ops.toList=some ios0)(hl1:ios1.length=ios0.length)(hturn:∀ (j:Nat) (io1:IOp),ios1[j]?=some io1→∃ io0,ios0[j]?=some io0∧Turn1 io0 io1)
  (hok:drawOk ops.toList ios1=true):Facts P N ops (ancs ops.toList []) (marked (ancs ops.toList []) ios1.length 0 ios1):=by
 obtain ⟨hl,hg⟩:=Jta7 hc
 unfold drawOk at hok
 simp only [Bool.and_eq_true,decide_eq_true_eq] at hok
 obtain ⟨⟨⟨⟨⟨⟨hsq,hh1⟩,hh2⟩,h1⟩,h2⟩,h3⟩,h4⟩:=hok
 have hln:ops.toList.length=ios1.length:=by rw [hl1];exact hl.symm
 have hmk:∀ j io,(marked (ancs ops.toList []) ios1.length 0 ios1)[j]?=some io→∃ io0:IOp,ios1[j]?=some io0∧io={ io0 with q:=!Jt7u (ancs ops.toList []) ios1.length j}:=by
  intro j io h
  rw [Jts9,omS] at h
  obtain ⟨x,hx,rfl⟩:=h
  exact ⟨x,hx,by simp⟩
 have hmlen:(marked (ancs ops.toList []) ios1.length 0 ios1).length=ios1.length:=by
  have:∀ (l:List IOp) (A:List (List Nat)) (n j:Nat),(marked A n j l).length=l.length:=by
   intro l
   induction l with
   | nil=>intros;rfl
   | cons x l ih=>intro A n j;simp [marked,ih]
  exact this _ _ _ _
 refine { len:=by rw [hmlen,hl1,hl];simp,anc:=rfl,op:=?_,quiet:=?_,alloc:=?_,dep:=?_,bar:=?_,edges:=h1,hv:=?_,sq:=?_}
 ·intro j o ho
  obtain ⟨io,k1,k2⟩:=hg j o (by rw [Array.getElem?_toList];exact ho)
  have hj:j<ios1.length:=by rw [hl1];exact (lgS.1 k1).1
  obtain ⟨io',k3,k4⟩:=hturn j _ (lgE hj)
  rw [k1] at k3;injection k3 with k3;subst k3
  refine ⟨{ ios1[j] with q:=!Jt7u (ancs ops.toList []) ios1.length j},io,by rw [Jts9,lgE hj];simp,k2,?_⟩
  rcases k4 with k4 | ⟨n,x,v,ls,q0,e1,e2⟩ | ⟨d,e,b,a,y,i,q0,e1,e2⟩
  ·exact .inl (by rw [k4])
  ·refine .inr (.inl ⟨n,x,v,ls,q0,e1,?_⟩)
   simp only [Bool.not_eq_true'] at hh2
   have hnb:Jt7u (ancs ops.toList []) ios1.length j=false:=by
    cases hbr:Jt7u (ancs ops.toList []) ios1.length j with
    | false=>rfl
    | true=>
     rw [List.any_eq_false] at hh2
     have:=hh2 j (List.mem_range.2 hj)
     rw [lgE hj,e2] at this
     simp [hbr] at this
   rw [e2,hnb];rfl
  ·refine .inr (.inr ⟨d,e,b,a,y,i,q0,e1,?_⟩)
   simp only [Bool.not_eq_true'] at hh2
   have hnb:Jt7u (ancs ops.toList []) ios1.length j=false:=by
    cases hbr:Jt7u (ancs ops.toList []) ios1.length j with
    | false=>rfl
    | true=>
     rw [List.any_eq_false] at hh2
     have:=hh2 j (List.mem_range.2 hj)
     rw [lgE hj,e2] at this
     simp [hbr] at this
   rw [e2,hnb];rfl
 ·intro j io hj hq
  obtain ⟨io0,k1,rfl⟩:=hmk j io hj
  rw [List.all_eq_true] at h3
  have:=h3 j (List.mem_range.2 (by rw [hln];exact (lgS.1 k1).1))
  rw [k1] at this
  simp only [Bool.or_eq_true] at this
  rcases this with h | h
  ·exact h
  ·simp only [hln] at h
   simp only [Bool.not_eq_true'] at hq
   rw [h] at hq;cases hq
 ·intro i j x y hi hj hqx hqy hx hy
  obtain ⟨x0,k1,rfl⟩:=hmk i x hi
  obtain ⟨y0,k2,rfl⟩:=hmk j y hj
  refine Jt17t h4 (x:=i) (y:=j) ?_ ?_
  ·refine List.mem_filter.2 ⟨List.mem_range.2 (by rw [hln];exact (lgS.1 k1).1),?_⟩
   rw [k1];simp only [Bool.and_eq_true]
   exact ⟨hx,by rw [hln];exact hqx⟩
  ·refine List.mem_filter.2 ⟨List.mem_range.2 (by rw [hln];exact (lgS.1 k2).1),?_⟩
   rw [k2];simp only [Bool.and_eq_true]
   exact ⟨hy,by rw [hln];exact hqy⟩
 ·intro i j x y hij hi hj hcf
  obtain ⟨x0,k1,rfl⟩:=hmk i x hi
  obtain ⟨y0,k2,rfl⟩:=hmk j y hj
  unfold depOk at h2
  rw [List.all_eq_true] at h2
  have:=h2 j (List.mem_range.2 (lgS.1 k2).1)
  rw [List.all_eq_true] at this
  have:=this i (List.mem_range.2 hij)
  rw [k1,k2] at this
  simp only [Bool.or_eq_true,Bool.not_eq_true'] at this
  rcases this with h | h
  ·have hcf':Jtck x0 y0=true:=hcf
   rw [h] at hcf';cases hcf'
  ·simpa using h
 ·intro i j io hj hq hi
  obtain ⟨io0,k1,rfl⟩:=hmk j io hj
  simp only [Bool.not_eq_false'] at hq
  unfold Jt7u at hq
  rw [List.all_eq_true] at hq
  have:=hq i (List.mem_range.2 (by rw [hmlen] at hi;exact hi))
  refine ⟨fun hlt=>?_,fun hlt=>?_⟩
  ·rw [if_pos hlt] at this;simpa using this
  ·rw [if_neg (by omega),if_pos hlt] at this;simpa using this
 ·rintro h x a i hx ⟨es,bs,y,hxi⟩
  obtain ⟨x0,k1,rfl⟩:=hmk h x hx
  obtain ⟨xd,xio,xg,xq⟩:=x0
  simp only at hxi
  subst hxi
  unfold Jth8 at hh1
  rw [List.all_eq_true] at hh1
  have hh:=hh1 h (List.mem_range.2 (lgS.1 k1).1)
  rw [k1] at hh
  simp only at hh
  rw [List.all_eq_true] at hh
  have key:∀ m o0,ios1[m]?=some o0→_:=fun m o0 hm=>by
   have:=hh m (List.mem_range.2 (lgS.1 hm).1)
   rw [hm] at this
   simp only [Bool.and_eq_true,Bool.or_eq_true,Bool.not_eq_true',decide_eq_false_iff_not] at this
   exact this
  refine ⟨fun m o hm ho=>?_,fun m o b j ho=>?_,fun m o u ho hou hmA=>?_⟩
  ·obtain ⟨o0,q1,rfl⟩:=hmk m o ho
   have:=(key m o0 q1).1.2
   rcases this with h' | h'
   ·exact absurd hm h'
   ·simp only [h',Bool.not_false]
  ·rintro ⟨es',bs',y',hoi⟩
   obtain ⟨o0,q1,rfl⟩:=hmk m o ho
   have:=(key m o0 q1).1.1
   simp only at hoi
   rw [hoi] at this
   simpa using this
  ·obtain ⟨o0,q1,rfl⟩:=hmk m o ho
   have:=(key m o0 q1).2
   simp only at hou
   rw [hou] at this
   simp only [Bool.or_eq_true,Bool.and_eq_true,Bool.not_eq_true',bne_iff_ne,ne_eq] at this
   have hc':(List.getD (ancs ops.toList []) h []).contains m=true:=by simpa using hmA
   rcases this with h' | ⟨h1',h2'⟩
   ·rw [hc'] at h';cases h'
   ·refine ⟨fun hui d hd=>?_,fun hua=>?_⟩
    ·rcases h1' with h' | h'
     ·exact absurd hui h'
     ·simp only at hd
      rw [hd] at h'
      simp [Opd.tmps] at h'
      exact h'.symm
    ·subst hua
     simp [Opd.tmps] at h2'
 ·rintro h x n y v ls hx hxi
  obtain ⟨x0,k1,rfl⟩:=hmk h x hx
  obtain ⟨xd,xio,xg,xq⟩:=x0
  simp only at hxi
  subst hxi
  unfold stqOk at hsq
  rw [List.all_eq_true] at hsq
  have hh:=hsq h (List.mem_range.2 (lgS.1 k1).1)
  rw [k1] at hh
  simp only at hh
  rw [List.all_eq_true] at hh
  have key:∀ m o0,ios1[m]?=some o0→_:=fun m o0 hm=>by
   have:=hh m (List.mem_range.2 (lgS.1 hm).1)
   rw [hm] at this
   exact this
  refine ⟨fun m o ho hq hal=>?_,fun m o n' y' v' ls' ho hoi hlt=>?_,fun m o k t ho hoi=>?_⟩
  ·obtain ⟨o0,q1,rfl⟩:=hmk m o ho
   have:=key m o0 q1
   obtain ⟨od,oio,og,oq⟩:=o0
   cases oio<;>first | (cases hal;done) | skip
   simp only [Bool.or_eq_true] at this hq
   rcases this with h' | h'
   ·rw [h'] at hq;cases hq
   ·simpa using h'
  ·obtain ⟨o0,q1,rfl⟩:=hmk m o ho
   have:=key m o0 q1
   obtain ⟨od,oio,og,oq⟩:=o0
   simp only at hoi
   subst hoi
   simp only [Bool.or_eq_true,Bool.not_eq_true',decide_eq_false_iff_not] at this
   rcases this with h' | h'
   ·exact absurd hlt h'
   ·simpa using h'
  ·obtain ⟨o0,q1,rfl⟩:=hmk m o ho
   have:=key m o0 q1
   obtain ⟨od,oio,og,oq⟩:=o0
   simp only at hoi
   subst hoi
   simp only at this
   refine ⟨fun hlt=>?_,fun hlt=>?_⟩
   ·rw [if_pos hlt] at this
    rw [Bool.or_eq_true,Bool.and_eq_true] at this
    rcases this with h' | ⟨h1',h2'⟩
    ·exact .inl (by simpa using h')
    ·refine .inr ⟨by simpa using h1',fun p o' hmp hph hp=>?_⟩
     obtain ⟨o1,q2,rfl⟩:=hmk p o' hp
     rw [List.all_eq_true] at h2'
     have:=h2' p (List.mem_range.2 (lgS.1 q2).1)
     rw [q2] at this
     simp only [Bool.or_eq_true,Bool.not_eq_true',decide_eq_false_iff_not] at this
     rcases this with h3' | h3'
     ·exact absurd ⟨hmp,hph⟩ h3'
     ·intro hw
      have hw':t∈o1.writes:=hw
      have:o1.writes.contains t=true:=by simpa using hw'
      rw [this] at h3';cases h3'
   ·rw [if_neg hlt] at this
    simpa using this
def EffOk(P:Program)(o:IOp)(e:Eff)(s s':ASt):Prop:=
 s'=e.app o.dst s∧e.ok o s∧(∀ d,o.dst=some d→∀ es rows,get s.env d≠some (.own es rows))∧
  ∀ st2,Agree o s st2→∀ (K2:ASt→Prop) (QP2:AV→ASt→Prop),K2 (e.app o.dst st2)→AWop P o.strip K2 QP2 st2
theorem extract{K:ASt→Prop}{QP:AV→ASt→Prop}{rest:List IOp}:∀ (seg:List IOp) (st0:ASt),(∀ o∈seg,o.q=true∧quiet o=true)→AWops P QP (seg++rest) K st0→
  ∃ es:List Eff,es.length=seg.length∧∃ f:Nat→ASt,f 0=st0∧(∀ (j:Nat) (o:IOp),seg[j]?=some o→∃ e:Eff,es[j]?=some e∧EffOk P o e (f j) (f (j+1)))∧AWops P QP rest K (f seg.length):=by
 intro seg
 induction seg with
 | nil=>intro st0 _ h;exact ⟨[],rfl,fun _=>st0,rfl,fun j o h=>by simp at h,h⟩
 | cons o seg ih=>
  intro st0 hq h
  simp only [List.cons_append,AWops] at h
  obtain ⟨e,k1,k2,k3,k4,k5⟩:=AWop_q (hq o (by simp)).1 (hq o (by simp)).2 h
  obtain ⟨es,l1,f,f0,f1,f2⟩:=ih _ (fun o' ho'=>hq o' (by simp [ho'])) k1
  refine ⟨e::es,by simp [l1],fun j=>match j with | 0=>st0 | j+1=>f j,rfl,fun j o' ho'=>?_,f2⟩
  cases j with
  | zero=>simp at ho';subst ho';exact ⟨e,rfl,f0,k2,k4,k5⟩
  | succ j=>simp at ho';simpa using f1 j o' ho'
variable {ops:Array Oper} {A:List (List Nat)} {ios:List IOp} {K:ASt→Prop} {QP:AV→ASt→Prop} {Q:Exit→Act→World→Prop}
theorem Jtcl{x y:IOp}{t:Nat}(h:t∈x.writes)(hy:t∈y.names):Jtck x y=true:=by
 unfold Jtck;rw [Bool.or_eq_true];left;rw [List.any_eq_true];exact ⟨t,h,by simpa using hy⟩
theorem Jtcm{x y:IOp}{t:Nat}(h:t∈y.writes)(hx:t∈x.names):Jtck x y=true:=by
 unfold Jtck;rw [Bool.or_eq_true];right;rw [List.any_eq_true];exact ⟨t,h,by simpa using hx⟩
theorem Jt1lg{o:IOp}{e:Eff}{s:ASt}{h0 t:Nat}(he:e.ok o s)(h:(get (e.ws h0 o.dst) t).isSome=true):t∈o.writes:=by
 cases hd:o.dst with
 | none=>rw [hd] at h;cases e<;>simp [Eff.ws,get] at h
 | some d=>
  rw [hd] at h
  cases e with
  | v x=>
   simp only [Eff.ws,get] at h
   split at h
   ·rename_i ht;subst ht;simp [IOp.writes,hd]
   ·cases h
  | blk k=>
   simp only [Eff.ws,get] at h
   split at h
   ·rename_i ht;subst ht;simp [IOp.writes,hd]
   ·cases h
  | s b off ys=>simp [Eff.ws,get] at h
  | o a i z x=>
   obtain ⟨⟨es,bs,y,hio⟩,_⟩:=he
   simp only [Eff.ws,get] at h
   simp only [IOp.writes,hd,hio,Opd.tmps]
   split at h
   ·rename_i ht;subst ht;simp
   ·split at h
    ·rename_i ht;subst ht;simp
    ·split at h
     ·rename_i ht;subst ht;simp
     ·cases h
theorem Jtda(F:Facts P N ops A ios){k L:Nat}(hL:k+L≤ios.length)(hq':∀ (j:Nat) (o:IOp),j<L→ios[k+j]?=some o→o.q=true) (hend:∀ o:IOp,ios[k+L]?=some o→o.q=false)
  {st0:ASt} {es:List Eff} {f:Nat→ASt} (hlen:es.length=L) (hf:∀ (j:Nat) (o:IOp),j<L→ios[k+j]?=some o→∃ e:Eff,es[j]?=some e∧EffOk P o e (f j) (f (j+1))) (hone:One es)
  {ds:List (Option Nat)} (hds:∀ (j:Nat) (d:Option Nat),ds[j]?=some d↔j<L∧∃ o,ios[k+j]?=some o∧o.dst=d)
  (hD:∀ j,j≤L→DInv st0 ds es (fun q=>decide (q<j)) (f j))
  (hv0:∀ j o a i,j<L→ios[k+j]?=some o→Jth7 o a i→∀ t p e r,get st0.env t≠some (.view p e r))
  (hrec:∀ g a w (listed:Array Bool) (fuel:Nat),listed.size=ops.size→(∀ j,listed.getD j false=decide (j<k+L))→Sim N (f L) g a w→GoesOn N (f L) g a w K QP (Q .normal) Q→ops.size-(k+L)≤fuel→wpAny P .any ops Q fuel listed a w) :
  ∀ (c:Nat) (S:Nat→Bool) (st:ASt) (g:Gh) (a:Act) (w:World) (listed:Array Bool) (fuel:Nat),(List.range L).countP (fun q=>!S q)=c→listed.size=ops.size→
   (∀ j,listed.getD j false=if j<k then true else if j<k+L then S (j-k) else false)→(∀ j,listed.getD j false=true→∀ c∈A.getD j [],listed.getD c false=true)→
   Sim N st g a w→DInv st0 ds es S st→GoesOn N st g a w K QP (Q .normal) Q→ops.size-(k+L)+c≤fuel→wpAny P .any ops Q fuel listed a w:=by
 have hws:∀ (q:Nat) (w:List (Nat × AV)),(wss st0.H.length ds es)[q]?=some w→q<L∧∃ o e,ios[k+q]?=some o∧es[q]?=some e∧EffOk P o e (f q) (f (q+1))∧w=e.ws st0.H.length o.dst:=by
  intro q w hw
  obtain ⟨d,e,h1,h2,h3⟩:=Jt1lh.1 hw
  obtain ⟨hqL,o,ho,hod⟩:=(hds q d).1 h1
  obtain ⟨e',h4,h5⟩:=hf q o hqL ho
  rw [h2] at h4;injection h4 with h4;subst h4
  exact ⟨hqL,o,e,ho,h2,h5,by rw [h3,hod]⟩
 intro c
 induction c with
 | zero=>
  intro S st g a w listed fuel hcnt hsz hls hcl hsim hI hgo hfuel
  have hall:∀ q,q<L→S q=true:=by
   intro q hqL
   rw [List.countP_eq_zero] at hcnt
   have:=hcnt q (List.mem_range.2 hqL)
   simpa using this
  have hIL:=hD L (Nat.le_refl _)
  have he:∀ t,get (f L).env t=get st.env t:=by
   intro t
   rw [hI.env,hIL.env]
   refine Jtpz fun q y hy hw=>?_
   have:=(hws q y hy).1
   simp only [Nat.zero_add,hall q this]
   simpa using this
  have hH:(f L).H=st.H:=by
   by_cases hex:∃ (i:Nat) (k:Blk),es[i]?=some (.blk k)
   ·obtain ⟨i,z,hi⟩:=hex
    have hiL:i<L:=by rw [←hlen];exact (lgS.1 hi).1
    have e1:=hIL.yes i z hi
    have e2:=hI.yes i z hi
    rw [hall i hiL] at e2
    simp only [hiL,decide_true,if_true] at e1
    simp only [if_true] at e2
    rw [e1,e2]
    refine Jthe fun q b off ys hq=>?_
    have hqL:q<L:=by rw [←hlen];exact (lgS.1 hq).1
    simp [hqL,hall q hqL]
   ·have hn:∀ (i:Nat) (k:Blk),es[i]?≠some (.blk k):=fun i k h=>hex ⟨i,k,h⟩
    rw [hIL.no hn,hI.no hn]
    refine Jthe fun q b off ys hq=>?_
    have hqL:q<L:=by rw [←hlen];exact (lgS.1 hq).1
    simp [hqL,hall q hqL]
  obtain ⟨s1,s2⟩:=hsim.congr he hH
  refine hrec g a w listed fuel hsz ?_ s1 (hgo.step (Step.same (fun r hr=>(s2 r).1 hr) hH)) (by omega)
  intro j
  rw [hls]
  by_cases h1:j<k
  ·simp [h1];omega
  ·by_cases h2:j<k+L
   ·simp [h1,h2,hall (j-k) (by omega)]
   ·simp [h1,h2]
 | succ c ih=>
  intro S st g a w listed fuel hcnt hsz hls hcl hsim hI hgo hfuel
  obtain ⟨fuel,rfl⟩:∃ f',fuel=f'+1:=⟨fuel-1,by omega⟩
  have hpos:0<(List.range L).countP (fun q=>!S q):=by omega
  obtain ⟨q0,hq0,hq0S⟩:=List.countP_pos_iff.1 hpos
  have hq0L:=List.mem_range.1 hq0
  have hlen':=F.len
  have hq0l:listed.getD (k+q0) false=false:=by
   rw [hls,if_neg (by omega),if_pos (by omega),show k+q0-k=q0 by omega]
   simpa using hq0S
  refine ⟨fun hnil=>absurd hnil (Jtyb hsz F.edges (k+q0) (by omega) hq0l),fun i hi=>?_⟩
  obtain ⟨r1,o,r2,r3⟩:=(Jtsu hsz).1 hi
  have hin:i<ops.size:=(Array.getElem?_eq_some_iff.1 r2).1
  have hil:listed.getD i false=false:=by rw [←Jtgm (by omega)];exact r1
  have hanc:∀ c∈A.getD i [],listed.getD c false=true:=by
   intro c hc
   rw [F.anc] at hc
   obtain ⟨o',h1,e,h2,h3,h4⟩:=Jt7j hc
   rw [Array.getElem?_toList,r2] at h1;injection h1 with h1;subst h1
   have hel:=r3 e h2 h3
   rcases h4 with rfl | ⟨_,h4⟩
   ·exact hel
   ·exact hcl e.on hel c (by rw [F.anc];exact h4)
  obtain ⟨io,io0,x1,x2,x3⟩:=F.op i o r2
  have hki:k≤i:=by
   by_cases h:i<k
   ·rw [hls,if_pos h] at hil;cases hil
   ·omega
  have hiL:i<k+L:=by
   by_cases h:i<k+L
   ·exact h
   ·exfalso
    have hb:∃ ob,ios[k+L]?=some ob:=by rw [lgE (by omega)];exact ⟨_,rfl⟩
    obtain ⟨ob,hob⟩:=hb
    have hbq:=hend ob hob
    by_cases hib:i=k+L
    ·have:=(F.bar (k+q0) i ob (by rw [hib];exact hob) hbq (by omega)).1 (by omega)
     rw [hanc _ this] at hq0l;cases hq0l
    ·have:=(F.bar i (k+L) ob hob hbq (by omega)).2 (by omega)
     have:=hanc _ this
     rw [hls,if_neg (by omega),if_neg (by omega)] at this;cases this
  obtain ⟨j,rfl⟩:∃ j,i=k+j:=⟨i-k,by omega⟩
  have hjL:j<L:=by omega
  have hSj:S j=false:=by
   rw [hls,if_neg (by omega),if_pos hiL,show k+j-k=j by omega] at hil;exact hil
  obtain ⟨e,e1,e2,e3,e4,e5⟩:=hf j io hjL x1
  have hSl:∀ q,q<L→(S q=true↔listed.getD (k+q) false=true):=by
   intro q hqL
   rw [hls,if_neg (by omega),if_pos (by omega),show k+q-k=q by omega]
  have hwr:∀ t∈io.names,∀ q w,(wss st0.H.length ds es)[q]?=some w→(get w t).isSome=true→S q=decide (q<j):=by
   intro t ht q w hqw hwt
   obtain ⟨hqL,oq,eq,hoq,heq,hok,rfl⟩:=hws q w hqw
   have hod:=Jt1lg hok.2.1 hwt
   by_cases hqj:q<j
   ·have:=F.dep (k+q) (k+j) oq io (by omega) hoq x1 (Jtcl hod ht)
    rw [(hSl q hqL).2 (hanc _ this)];simp [hqj]
   ·by_cases hqe:q=j
    ·subst hqe;rw [hSj];simp
    ·have:=F.dep (k+j) (k+q) io oq (by omega) x1 hoq (Jtcm hod ht)
     cases hSq:S q with
     | false=>simp [hqj]
     | true=>
      have:=hcl _ ((hSl q hqL).1 hSq) _ this
      rw [hil] at this;cases this
  have hview:∀ a i,Jth7 io a i→∀ q,S q=true→∀ w t ee r,(wss st0.H.length ds es)[q]?=some w→get w t=some (.view (.tmp i) ee r)→t=a:=by
   intro a i hh
   have hh':=F.hv (k+j) io a i x1 hh
   obtain ⟨hes,hbs,hy,hio⟩:=hh
   have hwa:a∈io.writes:=by simp [IOp.writes,hio,Opd.tmps]
   have hwi:i∈io.writes:=by simp [IOp.writes,hio,Opd.tmps]
   intro q
   induction q using Nat.strongRecOn with
   | _ q ihq=>
    intro hSq w t ee r hqw hwt
    obtain ⟨hqL,oq,eq,hoq,heq,hok,rfl⟩:=hws q w hqw
    have hqe:q≠j:=by rintro rfl;rw [hSj] at hSq;cases hSq
    have before:∀ u,oq.io=.mov (.t u)→u∈io.writes→k+q∈A.getD (k+j) []:=by
     intro u hu hwu
     have hun:u∈oq.names:=by simp [IOp.names,hu,AO.tmps,Opd.tmps]
     by_cases hqj:q<j
     ·exact F.dep (k+q) (k+j) oq io (by omega) hoq x1 (Jtcm hwu hun)
     ·have:=F.dep (k+j) (k+q) io oq (by omega) x1 hoq (Jtcl hwu hun)
      have:=hcl _ ((hSl q hqL).1 hSq) _ this
      rw [hil] at this;cases this
    cases eq with
    | v x=>
     cases hd:oq.dst with
     | none=>rw [hd] at hwt;simp [Eff.ws,get] at hwt
     | some d=>
      rw [hd] at hwt
      simp only [Eff.ws,get] at hwt
      split at hwt
      ·rename_i hdt
       subst hdt
       injection hwt with hwt
       obtain ⟨u,hu,hcase⟩:=hok.2.1 i ee r hwt
       rcases hcase with rfl | hcase
       ·exact (hh'.2.2 _ oq u hoq hu (before u hu hwi)).1 rfl d hd
       ·exfalso
        rw [(hD q (by omega)).env] at hcase
        rcases Jtq2 hcase with hb | ⟨q2,w2,hw2,hq2,hg2⟩
        ·exact hv0 j io a i hjL x1 ⟨hes,hbs,hy,hio⟩ u _ _ _ hb
        ·simp only [Nat.zero_add,decide_eq_true_eq] at hq2
         obtain ⟨hq2L,o2,e2',ho2,he2,hok2,hw2e⟩:=hws q2 w2 hw2
         have hw2u:u∈o2.writes:=Jt1lg hok2.2.1 (by rw [←hw2e,hg2];rfl)
         have hun:u∈oq.names:=by simp [IOp.names,hu,AO.tmps,Opd.tmps]
         have hdep:=F.dep (k+q2) (k+q) o2 oq (by omega) ho2 hoq (Jtcl hw2u hun)
         have hS2:S q2=true:=(hSl q2 hq2L).2 (hcl _ ((hSl q hqL).1 hSq) _ hdep)
         have hua:=ihq q2 hq2 hS2 w2 u ee r hw2 hg2
         subst hua
         exact (hh'.2.2 _ oq u hoq hu (before u hu hwa)).2 rfl
      ·cases hwt
    | blk b=>
     cases hd:oq.dst with
     | none=>rw [hd] at hwt;simp [Eff.ws,get] at hwt
     | some d=>
      rw [hd] at hwt
      simp only [Eff.ws,get] at hwt
      split at hwt
      ·injection hwt with hwt;cases hwt
      ·cases hwt
    | s b off ys=>simp [Eff.ws,get] at hwt
    | o a' i' z x=>
     obtain ⟨_,⟨zr,rfl⟩,⟨xe,xr,rfl⟩,_⟩:=hok.2.1
     cases hd:oq.dst with
     | none=>rw [hd] at hwt;simp [Eff.ws,get] at hwt
     | some d=>
      rw [hd] at hwt
      simp only [Eff.ws,get] at hwt
      repeat' (first | (cases hwt;done) | (injection hwt with hwt;cases hwt;done) | split at hwt)
  have hAg:Agree io (f j) st:=by
   have henv:∀ t∈io.names,get st.env t=get (f j).env t:=by
    intro t ht
    rw [hI.env,(hD j (by omega)).env]
    refine Jtpz fun q y hy hw=>?_
    simp only [Nat.zero_add]
    exact hwr t ht q y hy hw
   refine ⟨henv,fun t ht b off hb cells hk'=>?_,fun a i hh _ t ee r hta hget=>?_⟩
   ·have hb0:=hb
    rw [←henv t ht] at hb
    have hbl:b<st.H.length:=by
     cases hx:get st.env t with
     | none=>rw [hx] at hb;simp at hb
     | some x=>
      rw [hx] at hb
      simp only [Option.map_some,Option.some.injEq] at hb
      have hr:=hsim.env t x hx
      rw [hb] at hr
      obtain ⟨r,hr1,_⟩:=hr.ptr_inv
      exact (hsim.lt b r hr1).2.2
    obtain ⟨B1,hH1,hB1⟩:=(hD j (by omega)).base
    obtain ⟨B2,hH2,hB2⟩:=hI.base
    rw [hH1] at hk'
    rw [hH2,Jthg] at hbl
    have hbl1:b<B1.length:=by have:=(lgS.1 hk').1;rwa [Jthg] at this
    have hB12:B1[b]?=B2[b]?:=Jt7v hone hB1 hB2 hbl1 hbl
    have hcB:∀ c,cellB B1 b c=cellB B2 b c:=fun c=>by unfold cellB;rw [hB12]
    obtain ⟨cells0,z1,z2⟩:=(Jthh (S:=fun q=>decide (q<j)) (b:=b) (es:=es) (p:=0) (H:=B1)).2 cells hk'
    obtain ⟨cells2,z3,z4⟩:=(Jthh (S:=S) (b:=b) (es:=es) (p:=0) (H:=B2)).1 cells0 (by rw [←hB12];exact z1)
    have c1:∀ c,cellB (hst (fun q=>decide (q<j)) 0 es B1) b c=cells[c]?:=fun c=>by simp only [cellB,hk']
    have c2:∀ c,cellB (hst S 0 es B2) b c=cells2[c]?:=fun c=>by simp only [cellB,z3]
    have hst':∀ (q b' off':Nat) (ys:List AV),es[q]?=some (Eff.s b' off' ys)→q<L∧∃ oq,ios[k+q]?=some oq∧Eff.ok oq (f q) (.s b' off' ys):=by
     intro q b' off' ys hq
     have hqL:q<L:=by rw [←hlen];exact (lgS.1 hq).1
     have oq:ios[k+q]?=some ios[k+q]:=lgE (by omega)
     obtain ⟨eq,k1,k2⟩:=hf q _ hqL oq
     rw [hq] at k1;injection k1 with k1;subst k1
     exact ⟨hqL,_,oq,k2.2.1⟩
    have hys:∀ (q b' off':Nat) (ys:List AV),es[q]?=some (Eff.s b' off' ys)→∀ y∈ys,∀ (e:Nat) (r:List (List D)),y≠AV.own e r:=by
     intro q b' off' ys hq
     obtain ⟨_,oq,_,n',x',v',ls',cs,_,_,_,_,_,h6,_⟩:=hst' q b' off' ys hq
     exact h6
    refine ⟨cells2,by rw [hH2];exact z3,by rw [z4,z2],fun n x v ls hio c l1 l2 hno ee r hown=>?_,fun n hio c l1 l2=>?_⟩
    ·-- what may grow is nowhere written over
     have h0:cellB B1 b c=some (.own ee r):=by rw [hcB];exact Jthj hys (by rw [c2];exact hown)
     have hcov:¬ ∀ q off' ys,es[q]?=some (Eff.s b off' ys)→off'≤c→c<off'+ys.length→¬ q<j:=by
      intro hall
      have:=Jthd (S:=fun q=>decide (q<j)) (S':=fun _=>false) (b:=b) (c:=c) (es:=es) (p:=0) (H:=B1) (H':=B1) rfl (fun q off' ys hq k1 k2=>by simpa using hall q off' ys hq k1 k2)
      rw [Jthi (S:=fun _=>false) (fun _ _ _ _ _=>rfl),h0,c1] at this
      exact hno ee r this
     refine hcov fun q=>?_
     induction q using Nat.strongRecOn with
     | _ q ihq=>
      intro off' ys hq k1 k2 hqj
      obtain ⟨hqL,oq,_,n',x',v',ls',cs,_,h2,h3,h4,h5,_⟩:=hst' q b off' ys hq
      obtain ⟨Bq,hHq,hBq⟩:=(hD q (by omega)).base
      have hbq:b<Bq.length:=by
       have:=(lgS.1 h3).1
       rwa [hHq,Jthg] at this
      have hq0:cellB Bq b c=some (.own ee r):=by
       rw [←h0];unfold cellB;rw [Jt7v hone hBq hB1 hbq hbl1]
      have hcell:cellB (f q).H b c=some (.own ee r):=by
       rw [hHq]
       have:=Jthd (S:=fun q'=>decide (q'<q)) (S':=fun _=>false) (b:=b) (c:=c) (es:=es) (p:=0) (H:=Bq) (H':=Bq) rfl
        (fun q' off'' ys' hq' m1 m2=>by
         have:=fun hlt:q'<q=>ihq q' hlt off'' ys' hq' m1 m2 (by omega)
         simpa using this)
       rw [Jthi (S:=fun _=>false) (fun _ _ _ _ _=>rfl),hq0] at this
       exact this
      simp only [cellB,h3] at hcell
      exact h5 c k1 (by omega) ee r hcell
    ·-- what is read is not written out of order
     rw [←c1,←c2]
     refine Jthd (hcB c).symm fun q off' ys hq k1 k2=>?_
     rw [Nat.zero_add]
     obtain ⟨hqL,oq,hoq,n',x',v',ls',cs,hoi,h2,h3,h4,h5,h6,h7⟩:=hst' q b off' ys hq
     have hF:=(F.sq (k+q) oq n' x' v' ls' hoq hoi).2.2 (k+j) io n t x1 hio
     by_cases hqj:q<j
     ·have:=hF.2 (by omega)
      rw [(hSl q hqL).2 (hanc _ this)];simp [hqj]
     ·have hqe:q≠j:=by
       rintro rfl
       rw [hoq] at x1;injection x1 with x1;subst x1
       rw [hoi] at hio;cases hio
      have hSq:S q=false:=by
       cases hSq:S q with
       | false=>rfl
       | true=>
        rcases hF.1 (by omega) with h | ⟨h,hnw⟩
        ·have:=hcl _ ((hSl q hqL).1 hSq) _ h
         rw [hil] at this;cases this
        ·exfalso
         have hsame:get (f q).env t=get (f j).env t:=by
          rw [(hD q (by omega)).env,(hD j (by omega)).env]
          refine Jtpz fun p y hy hw=>?_
          simp only [Nat.zero_add]
          obtain ⟨hpL,op,ep,hop,hep,hokp,rfl⟩:=hws p y hy
          have hpw:=Jt1lg hokp.2.1 hw
          by_cases hp1:p<j
          ·have:p<q:=by omega
           simp [hp1,this]
          ·by_cases hp2:p<q
           ·exact absurd hpw (hnw (k+p) op (by omega) (by omega) hop)
           ·simp [hp1,hp2]
         rw [List.all_eq_true] at h7
         have haw:=h7 _ h
         unfold awayL at haw
         have hev:evr (f q).env (.t t)=some (.ptr b off):=by
          simp only [evr,ev,hsame];exact hb0
         rw [hev] at haw
         simp only [bne_self_eq_false,Bool.false_or,Bool.or_eq_true,decide_eq_true_eq] at haw
         omega
      rw [hSq];simp [hqj]
   ·rw [hI.env] at hget
    rcases Jtq2 hget with hb | ⟨q2,w2,hw2,hq2,hg2⟩
    ·exact hv0 j io a i hjL x1 hh t _ _ _ hb
    ·rw [Nat.zero_add] at hq2
     exact hta (hview a i hh q2 hq2 w2 t ee r hw2 hg2)
  have hstep:=hI.step hone ((hds j io.dst).2 ⟨hjL,io,x1,rfl⟩) e1 hSj
   (fun t q w hd hlt hqw hwt=>by
    have:=hwr t (by
     have:=Jt1lg e3 hd
     unfold IOp.writes at this
     rw [List.mem_append] at this
     rcases this with h | h
     ·simp only [IOp.names,List.mem_append];exact .inr h
     ·split at h
      ·rename_i es' bs' xx yy ii hio
       simp only [IOp.names,hio,AO.tmps,List.mem_append] at h ⊢
       rcases h with h | h
       ·exact .inl (.inl (.inl (.inl h)))
       ·exact .inl (.inl (.inr h))
      ·simp at h) q w hqw hwt
    rw [this];simp;omega)
   (fun t hd es' rows hg=>by
    have:get st.env t=get (f j).env t:=hAg.env t (by simp [IOp.names,hd])
    rw [this] at hg
    exact e4 t hd es' rows hg)
   (fun heS q b off ys hlt hq=>by
    cases e with
    | s b1 off1 ys1=>
     obtain ⟨n1,x1',v1,ls1,cs1,hio1,_⟩:=e3
     have hqL:q<L:=by rw [←hlen];exact (lgS.1 hq).1
     have hoq:ios[k+q]?=some ios[k+q]:=lgE (by omega)
     obtain ⟨eq,m1,m2⟩:=hf q _ hqL hoq
     rw [hq] at m1;injection m1 with m1;subst m1
     obtain ⟨n2,x2',v2,ls2,cs2,hio2,_⟩:=m2.2.1
     have hdep:=(F.sq (k+j) io n1 x1' v1 ls1 x1 hio1).2.1 (k+q) _ n2 x2' v2 ls2 hoq hio2 (by omega)
     cases hSq:S q with
     | false=>rfl
     | true=>
      have:=hcl _ ((hSl q hqL).1 hSq) _ hdep
      rw [hil] at this;cases this
    | _=>cases heS)
   (fun z hez q b off ys hq=>by
    subst hez
    have hqL:q<L:=by rw [←hlen];exact (lgS.1 hq).1
    have hoq:ios[k+q]?=some ios[k+q]:=lgE (by omega)
    obtain ⟨eq,m1,m2⟩:=hf q _ hqL hoq
    rw [hq] at m1;injection m1 with m1;subst m1
    obtain ⟨n2,x2',v2,ls2,cs2,hio2,_⟩:=m2.2.1
    have hdep:=(F.sq (k+q) _ n2 x2' v2 ls2 hoq hio2).1 (k+j) io x1 (hq' j io hjL x1) e3
    cases hSq:S q with
    | false=>rfl
    | true=>
     have:=hcl _ ((hSl q hqL).1 hSq) _ hdep
     rw [hil] at this;cases this)
  refine Jt4d (K:=fun st'=>st'=e.app io.dst st) (QP:=fun _ _=>False) (st:=st) hsim r2 x2 (x3.strip x2) (e5 st hAg _ _ rfl) ⟨?_,fun x v st' g' a' w' h=>h.elim⟩
  intro st' g' a' w' hst' hsim' hstp
  subst hst'
  refine ih (fun q=>S q||q==j) _ g' a' w' _ fuel ?_ (by simp [hsz]) ?_ ?_ hsim' hstep (hgo.step hstp) (by omega)
  ·-- the count goes down by one
   have hsplit:∀ (l:List Nat),l.Nodup→j∈l→l.countP (fun q=>!S q)=l.countP (fun q=>!(S q||q==j))+1:=by
    intro l
    induction l with
    | nil=>intro _ h;simp at h
    | cons x l ihl=>
     intro hnd hm
     rw [List.nodup_cons] at hnd
     simp only [List.countP_cons]
     by_cases hxj:x=j
     ·subst hxj
      have:l.countP (fun q=>!S q)=l.countP (fun q=>!(S q||q==x)):=by
       refine List.countP_congr fun y hy=>?_
       have:y≠x:=fun h=>hnd.1 (h▸hy)
       simp [this]
      rw [this,hSj];simp
     ·have:=ihl hnd.2 ((List.mem_cons.1 hm).resolve_left (fun h=>hxj h.symm))
      rw [this]
      simp [hxj];omega
   have:=hsplit (List.range L) List.nodup_range (List.mem_range.2 hjL)
   omega
  ·intro q
   rw [Jtgl (by omega),hls]
   by_cases h1:q<k
   ·simp [h1]
   ·by_cases h2:q<k+L
    ·have h3:(q==k+j)=(q-k==j):=by rw [Bool.eq_iff_iff];simp only [beq_iff_eq];omega
     simp only [if_neg h1,if_pos h2,h3]
    ·have:q≠k+j:=by omega
     simp [h1,h2,this]
  ·intro q hq c hc
   rw [Jtgl (by omega)] at hq ⊢
   rw [Bool.or_eq_true] at hq ⊢
   rcases hq with hq | hq
   ·exact .inl (hcl q hq c hc)
   ·simp only [beq_iff_eq] at hq;subst hq
    exact .inl (hanc c hc)
theorem Jt1dr:∀ (r k:Nat),k+r=ios.length→∃ L,k+L≤ios.length∧(∀ (j:Nat) (o:IOp),j<L→ios[k+j]?=some o→o.q=true)∧(∀ o:IOp,ios[k+L]?=some o→o.q=false):=by
 intro r
 induction r with
 | zero=>intro k hk;exact ⟨0,by omega,fun j o h=>by omega,fun o h=>by rw [List.getElem?_eq_none (by omega)] at h;cases h⟩
 | succ r ih=>
  intro k hk
  have ho:ios[k]?=some ios[k]:=lgE (by omega)
  cases hq:ios[k].q with
  | false=>exact ⟨0,by omega,fun j o h=>by omega,fun o h=>by rw [Nat.add_zero,ho] at h;injection h with h;subst h;exact hq⟩
  | true=>
   obtain ⟨L,h1,h2,h3⟩:=ih (k+1) (by omega)
   refine ⟨L+1,by omega,fun j o hj hjo=>?_,fun o h=>h3 o (by rw [show k+1+L=k+(L+1) by omega];exact h)⟩
   cases j with
   | zero=>rw [Nat.add_zero,ho] at hjo;injection hjo with hjo;subst hjo;exact hq
   | succ j=>exact h2 j o (by omega) (by rw [show k+1+j=k+(j+1) by omega];exact hjo)
theorem Jtdb(F:Facts P N ops A ios):∀ (r k:Nat),k+r=ios.length→∀ (st:ASt) (g:Gh) (a:Act) (w:World) (listed:Array Bool) (fuel:Nat),listed.size=ops.size→
  (k=0∨(∃ o,ios[k-1]?=some o∧o.q=false∧0<k)∨(∀ o:IOp,ios[k]?=some o→o.q=false))→(k=0→∀ (j:Nat) (o:IOp) (a i:Nat),ios[j]?=some o→Jth7 o a i→∀ t p e r,get st.env t≠some (.view p e r))→
  (∀ j,listed.getD j false=decide (j<k))→Sim N st g a w→AWops P QP (ios.drop k) K st→GoesOn N st g a w K QP (Q .normal) Q→ops.size-k≤fuel→wpAny P .any ops Q fuel listed a w:=by
 intro r
 induction r using Nat.strongRecOn with
 | _ r ih=>
  intro k hk st g a w listed fuel hsz hpre hst hls hsim h hgo hfuel
  have hlen:=F.len
  have hcl:∀ j,listed.getD j false=true→∀ c∈A.getD j [],listed.getD c false=true:=by
   intro j hj c hc
   rw [F.anc] at hc
   have:=anc_lt F.edges j c hc
   rw [hls] at hj ⊢
   simp at hj ⊢;omega
  obtain ⟨L,hL1,hL2,hL3⟩:=Jt1dr (ios:=ios) r k hk
  by_cases hL0:L=0
  ·subst hL0
   by_cases hr0:r=0
   ·subst hr0
    have hready:Region.ready .any ops listed=[]:=by
     apply List.eq_nil_iff_forall_not_mem.2
     intro i hi
     obtain ⟨r1,o,r2,_⟩:=(Jtsu hsz).1 hi
     have hin:i<ops.size:=(Array.getElem?_eq_some_iff.1 r2).1
     rw [Jtgm (by omega),hls] at r1
     simp at r1;omega
    have hdrop:ios.drop k=[]:=List.drop_eq_nil_of_le (by omega)
    rw [hdrop] at h
    have hfin:=hgo.1 st g a w h hsim ⟨Tr.refl _ _ _,fun r hr=>.inl hr,fun _ _ h=>h,Nat.le_refl _,rfl⟩
    cases fuel with
    | zero=>exact ⟨hready,hfin⟩
    | succ fuel=>exact ⟨fun _=>hfin,fun i hi=>by rw [hready] at hi;simp at hi⟩
   ·have hob:ios[k]?=some ios[k]:=lgE (by omega)
    have hbq:=hL3 _ hob
    obtain ⟨fuel,rfl⟩:∃ f',fuel=f'+1:=⟨fuel-1,by omega⟩
    refine ⟨fun hnil=>absurd hnil (Jtyb hsz F.edges k (by omega) (by rw [hls];simp)),fun i hi=>?_⟩
    obtain ⟨r1,o,r2,r3⟩:=(Jtsu hsz).1 hi
    have hin:i<ops.size:=(Array.getElem?_eq_some_iff.1 r2).1
    have hil:listed.getD i false=false:=by rw [←Jtgm (by omega)];exact r1
    have hanc:∀ c∈A.getD i [],listed.getD c false=true:=by
     intro c hc
     rw [F.anc] at hc
     obtain ⟨o',h1,e,h2,h3,h4⟩:=Jt7j hc
     rw [Array.getElem?_toList,r2] at h1;injection h1 with h1;subst h1
     have hel:=r3 e h2 h3
     rcases h4 with rfl | ⟨_,h4⟩
     ·exact hel
     ·exact hcl e.on hel c (by rw [F.anc];exact h4)
    have hik:i=k:=by
     by_cases h1:i<k
     ·rw [hls] at hil;simp at hil;omega
     ·by_cases h2:i=k
      ·exact h2
      ·have:=(F.bar i k _ hob hbq (by omega)).2 (by omega)
       have:=hanc _ this
       rw [hls] at this;simp at this
    subst hik
    obtain ⟨io,io0,x1,x2,x3⟩:=F.op i o r2
    have hdrop:ios.drop i=io::ios.drop (i+1):=by
     rw [List.drop_eq_getElem_cons (by omega)]
     congr 1
     rw [hob] at x1;injection x1
    rw [hdrop] at h
    simp only [AWops] at h
    refine Jt4d hsim r2 x2 x3 h ⟨?_,fun x v st' g' a' w' hq hs hr hst=>hgo.2 x v st' g' a' w' hq hs hr hst⟩
    intro st' g' a' w' hK hs' hst'
    refine ih (r-1) (by omega) (i+1) (by omega) st' g' a' w' _ fuel (by simp [hsz]) (.inr (.inl ⟨_,hob,hbq,by omega⟩)) (fun h=>by omega) ?_ hs' hK (hgo.step hst') (by omega)
    intro j
    rw [Jtgl (by omega),hls]
    by_cases h1:j=i
    ·subst h1;simp
    ·by_cases h2:j<i
     ·simp [h2];omega
     ·have:¬ j<i+1:=by omega
      simp [h1,h2,this]
  ·-- a quiet Jt1dr
   have hsplit:ios.drop k=(ios.drop k).take L++ios.drop (k+L):=by
    conv=>lhs;rw [←List.take_append_drop L (ios.drop k)]
    rw [List.drop_drop]
   have hseg:∀ j o,((ios.drop k).take L)[j]?=some o↔j<L∧ios[k+j]?=some o:=by
    intro j o
    rw [List.getElem?_take]
    by_cases hj:j<L
    ·simp [hj,List.getElem?_drop]
    ·simp [hj]
   have hsegl:((ios.drop k).take L).length=L:=by simp;omega
   rw [hsplit] at h
   obtain ⟨es,l1,f,f0,f1,f2⟩:=extract _ st (fun o ho=>by
    obtain ⟨j,hj⟩:=List.getElem?_of_mem ho
    obtain ⟨hjL,hj⟩:=(hseg j o).1 hj
    have:=hL2 j o hjL hj
    exact ⟨this,F.quiet _ _ hj this⟩) h
   rw [hsegl] at l1 f2
   have hf:∀ (j:Nat) (o:IOp),j<L→ios[k+j]?=some o→∃ e:Eff,es[j]?=some e∧EffOk P o e (f j) (f (j+1)):=fun j o hj ho=>f1 j o ((hseg j o).2 ⟨hj,ho⟩)
   have hone:One es:=by
    have al:∀ m (hm:k+m<ios.length) (b:Blk),m<L→es[m]?=some (.blk b)→Jtll ios[k+m]=true:=by
     intro m hm b hmL hmb
     obtain ⟨e,h1,_,h2,_⟩:=hf m ios[k+m] hmL (lgE hm)
     rw [hmb] at h1;injection h1 with h1;subst h1
     exact h2
    intro i j z z' hi hj
    have hiL:i<L:=by rw [←l1];exact (lgS.1 hi).1
    have hjL:j<L:=by rw [←l1];exact (lgS.1 hj).1
    have oi:ios[k+i]?=some ios[k+i]:=lgE (by omega)
    have oj:ios[k+j]?=some ios[k+j]:=lgE (by omega)
    have:=F.alloc _ _ _ _ oi oj (hL2 i _ hiL oi) (hL2 j _ hjL oj) (al i (by omega) z hiL hi) (al j (by omega) z' hjL hj)
    omega
   have hds:∀ (j:Nat) (d:Option Nat),(((ios.drop k).take L).map IOp.dst)[j]?=some d↔j<L∧∃ o,ios[k+j]?=some o∧o.dst=d:=by
    intro j d
    rw [lgM,omS]
    constructor
    ·rintro ⟨o,h1,h2⟩
     obtain ⟨h3,h4⟩:=(hseg j o).1 h1
     exact ⟨h3,o,h4,h2⟩
    ·rintro ⟨h3,o,h4,h2⟩
     exact ⟨o,(hseg j o).2 ⟨h3,h4⟩,h2⟩
   have hD:∀ j,j≤L→DInv st (((ios.drop k).take L).map IOp.dst) es (fun q=>decide (q<j)) (f j):=by
    intro j
    induction j with
    | zero=>
     intro _
     rw [f0]
     refine ⟨fun t=>?_,fun i z hi=>by rw [Jthi fun q b off ys _=>by simp];simp,fun _=>(Jthi fun q b off ys _=>by simp).symm⟩
     rw [Jtq0]
     intro q y _ _;simp
    | succ j ihj=>
     intro hj
     have oj:ios[k+j]?=some ios[k+j]:=lgE (by omega)
     obtain ⟨e,h1,h2,h3,h4,h5⟩:=hf j _ (by omega) oj
     have:=(ihj (by omega)).step hone ((hds j _).2 ⟨by omega,_,oj,rfl⟩) h1 (by simp) (fun t q _ hlt _=>by simp;omega) h4 (fun _ q b off ys hlt _=>by simp;omega)
      (fun z hez q b off ys hq=>by
       subst hez
       have hqL:q<L:=by rw [←l1];exact (lgS.1 hq).1
       have oq:ios[k+q]?=some ios[k+q]:=lgE (by omega)
       obtain ⟨eq,m1,m2⟩:=hf q _ hqL oq
       rw [hq] at m1;injection m1 with m1;subst m1
       obtain ⟨n2,x2',v2,ls2,cs2,hio2,_⟩:=m2.2.1
       have hdep:=(F.sq (k+q) _ n2 x2' v2 ls2 oq hio2).1 (k+j) _ oj (hL2 j _ (by omega) oj) h3
       rw [F.anc] at hdep
       have:=anc_lt F.edges _ _ hdep
       simp;omega)
     rw [←h2] at this
     have hfun:(fun q=>decide (q<j+1))=(fun q=>(decide (q<j)||q==j)):=by
      funext q
      by_cases hq1:q<j
      ·have:q<j+1:=by omega
       simp [hq1,this]
      ·by_cases hq2:q=j
       ·subst hq2;simp
       ·have:¬ q<j+1:=by omega
        simp [hq1,hq2,this]
     rw [hfun];exact this
   have hv0:∀ j o a i,j<L→ios[k+j]?=some o→Jth7 o a i→∀ t p e r,get st.env t≠some (.view p e r):=by
    intro j o a i hj ho hh
    have hF:=(F.hv (k+j) o a i ho hh).1
    have hk0:k=0:=by
     rcases hpre with h | ⟨o',h1,h2,h3⟩ | h
     ·exact h
     ·have:=hF (k-1) o' (by omega) h1
      rw [h2] at this;cases this
     ·obtain ⟨o',ok'⟩:∃ o',ios[k]?=some o':=⟨_,lgE (by omega)⟩
      have h1:=hL2 0 o' (by omega) (by rw [Nat.add_zero];exact ok')
      have h2:=h o' ok'
      rw [h1] at h2;cases h2
    exact hst hk0 _ o a i ho hh
   refine Jtda F hL1 hL2 hL3 l1 hf hone hds hD hv0 ?_ L (fun _=>false) st g a w listed fuel (by simp [List.countP_eq_length]) hsz ?_ hcl hsim ?_ hgo (by omega)
   ·intro g' a' w' listed' fuel' hsz' hls' hsim' hgo' hfuel'
    exact ih (r-L) (by omega) (k+L) (by omega) (f L) g' a' w' listed' fuel' hsz' (.inr (.inr hL3)) (fun h=>by omega) hls' hsim' f2 hgo' hfuel'
   ·intro j
    rw [hls]
    by_cases h1:j<k
    ·simp [h1]
    ·simp [h1]
   ·have:=hD 0 (by omega)
    rw [f0] at this
    simpa using this
theorem Jt1i{ops:Array Oper}{ios0 ios1:List IOp}{st:ASt}{g:Gh}{a:Act}{w:World}(hc:cOpers P N ops ops.toList=some ios0)(hl1:ios1.length=ios0.length)
  (hturn:∀ (j:Nat) (io1:IOp),ios1[j]?=some io1→∃ io0,ios0[j]?=some io0∧Turn1 io0 io1) (hok:drawOk ops.toList ios1=true) (hs:Sim N st g a w)
  (hst:Jth6 ios1=true→∀ t p e r,get st.env t≠some (.view p e r))
  (h:AWops P QP (marked (ancs ops.toList []) ios1.length 0 ios1) K st) (hg:GoesOn N st g a w K QP (Q .normal) Q):wpAny P .any ops Q ops.size (Array.replicate ops.size false) a w:=by
 have F:=Jtfn hc hl1 hturn hok
 refine Jtdb F _ 0 (by rw [Nat.zero_add]) st g a w _ _ (by simp) (.inl rfl) (fun _ j o a0 i0 ho hh=>?_) ?_ hs (by simpa using h) hg (by omega)
 ·refine hst ?_
  rw [Jts9,omS] at ho
  obtain ⟨o1,ho1,rfl⟩:=ho
  obtain ⟨es,bs,y,hio⟩:=hh
  simp only at hio
  unfold Jth6
  rw [List.any_eq_true]
  exact ⟨o1,lmG ho1,by rw [hio]⟩
 intro j
 by_cases hj:j<ops.size
 ·simp [Array.getD,hj]
 ·simp [Array.getD,hj]
theorem Jt1fe{ios0:List IOp}(j:Nat)(io1:IOp)(h:ios0[j]?=some io1):∃ io0,ios0[j]?=some io0∧Turn1 io0 io1:=⟨io1,h,.inl rfl⟩
theorem Jtha {A:List (List Nat)} {ios:List IOp}:(Jth9 A ios).length=ios.length∧∀ (j:Nat) (io1:IOp),(Jth9 A ios)[j]?=some io1→∃ io0,ios[j]?=some io0∧Turn1 io0 io1:=by
 have key:∀ (g:Nat→IOp→IOp) (l:List IOp) (n:Nat),(∀ j,j<l.length→ios[n+j]?=l[j]?)→((List.range' n l.length).filterMap fun j=>(ios[j]?).map (g j)).length=l.length∧
   ∀ j,((List.range' n l.length).filterMap fun j=>(ios[j]?).map (g j))[j]?=(l[j]?).map (g (n+j)):=by
  intro g l
  induction l with
  | nil=>intro n _;simp
  | cons x l ih=>
   intro n hn
   have h0:=hn 0 (by simp)
   simp only [Nat.add_zero,List.getElem?_cons_zero] at h0
   obtain ⟨k1,k2⟩:=ih (n+1) fun j hj=>by
    have:=hn (j+1) (by simpa using hj)
    rw [show n+1+j=n+(j+1) by omega];simpa using this
   have hr:List.range' n (x::l).length=n::List.range' (n+1) l.length:=by simp [List.range'_succ]
   rw [hr]
   simp only [List.filterMap_cons,h0,Option.map_some]
   refine ⟨by simp [k1],fun j=>?_⟩
   cases j with
   | zero=>simp
   | succ j=>simp only [List.getElem?_cons_succ,k2,show n+1+j=n+(j+1) by omega]
 have h:=key (fun j o=>match o with
  | ⟨some d,.app e b (.t a) y,none,q⟩=>if Jt7u A ios.length j=true then o else (match srcOf ios a with | some i=>⟨some d,.appq e b (.t a) y i,none,q⟩ | none=>o)
  | o=>o) ios 0 (fun j hj=>by rw [Nat.zero_add])
 rw [←List.range_eq_range'] at h
 refine ⟨h.1,fun j io1 hj=>?_⟩
 have hj':=(h.2 j).symm.trans hj
 rw [omS] at hj'
 obtain ⟨io0,hio0,he⟩:=hj'
 refine ⟨io0,hio0,?_⟩
 split at he
 ·rename_i d e b a y q
  split at he
  ·exact .inl he.symm
  ·split at he
   ·rename_i i hi
    exact .inr (.inr ⟨d,e,b,a,y,i,q,rfl,he.symm⟩)
   ·exact .inl he.symm
 ·exact .inl he.symm
theorem Jt1do {A:List (List Nat)} {ios:List IOp}:(Jt1dn A ios).length=ios.length∧∀ (j:Nat) (io1:IOp),(Jt1dn A ios)[j]?=some io1→∃ io0,ios[j]?=some io0∧(io1=io0∨∃ n x v ls q0,io0=⟨none,.store n x v,none,q0⟩∧io1=⟨none,.storeq n x v ls,none,q0⟩):=by
 have key:∀ (g:Nat→IOp→IOp) (l:List IOp) (n:Nat),(∀ j,j<l.length→ios[n+j]?=l[j]?)→((List.range' n l.length).filterMap fun j=>(ios[j]?).map (g j)).length=l.length∧
   ∀ j,((List.range' n l.length).filterMap fun j=>(ios[j]?).map (g j))[j]?=(l[j]?).map (g (n+j)):=by
  intro g l
  induction l with
  | nil=>intro n _;simp
  | cons x l ih=>
   intro n hn
   have h0:=hn 0 (by simp)
   simp only [Nat.add_zero,List.getElem?_cons_zero] at h0
   obtain ⟨k1,k2⟩:=ih (n+1) fun j hj=>by
    have:=hn (j+1) (by simpa using hj)
    rw [show n+1+j=n+(j+1) by omega];simpa using this
   have hr:List.range' n (x::l).length=n::List.range' (n+1) l.length:=by simp [List.range'_succ]
   rw [hr]
   simp only [List.filterMap_cons,h0,Option.map_some]
   refine ⟨by simp [k1],fun j=>?_⟩
   cases j with
   | zero=>simp
   | succ j=>simp only [List.getElem?_cons_succ,k2,show n+1+j=n+(j+1) by omega]
 have h:=key (fun j o=>match o with
  | ⟨none,.store n x v,none,q⟩=>if Jt7u A ios.length j=true then o else ⟨none,.storeq n x v (lsOf A ios j),none,q⟩
  | o=>o) ios 0 (fun j hj=>by rw [Nat.zero_add])
 rw [←List.range_eq_range'] at h
 refine ⟨h.1,fun j io1 hj=>?_⟩
 have hj':=(h.2 j).symm.trans hj
 rw [omS] at hj'
 obtain ⟨io0,hio0,he⟩:=hj'
 refine ⟨io0,hio0,?_⟩
 split at he
 ·split at he
  ·exact .inl he.symm
  ·exact .inr ⟨_,_,_,_,_,rfl,he.symm⟩
 ·exact .inl he.symm
end
theorem Jtnn{ops:Array Oper}{j:Nat}:(Jtnm ops)[j]?=(ops[j]?).map (linkO j):=by
 unfold Jtnm
 rw [List.getElem?_toArray,List.getElem?_mapIdx,Array.getElem?_toList]
theorem Jtno{ops:Array Oper}:(Jtnm ops).size=ops.size:=by simp [Jtnm]
theorem Jtnl(j:Nat)(o:Oper):(linkO j o).op=o.op∧(linkO j o).dst=o.dst∧(linkO j o).guard=o.guard∧(linkO j o).type=o.type:=by
 unfold linkO;split<;>exact ⟨rfl,rfl,rfl,rfl⟩
theorem Jtnk(j:Nat)(o:Oper)(ρ:Operand→Value):execOp ρ (linkO j o)=execOp ρ o:=by
 unfold linkO;split<;>rfl
theorem Jtns{ops:Array Oper}{tmps:Array Value}:yielded (Jtnm ops) tmps=yielded ops tmps:=by
 funext j
 unfold yielded
 rw [Jtnn]
 cases h:ops[j]? with
 | none=>rfl
 | some o=>simp only [Option.map_some,Option.bind_some,(Jtnl j o).2.1]
theorem Jtnp{ops:Array Oper}{listed:Array Bool}(h:listed.getD 0 false=true):Region.ready .any (Jtnm ops) listed=Region.ready .any ops listed:=by
 unfold Region.ready
 rw [Jtno]
 refine List.filter_congr fun i _=>?_
 rw [Jtnn]
 cases hi:ops[i]? with
 | none=>rfl
 | some o=>
  simp only [Option.map_some,Option.getD_some]
  congr 1
  unfold linkO
  split
  ·rfl
  ·simp only [Array.all_push,h]
   simp
theorem Jtnr{P:Program}{ops:Array Oper}{Q:Exit→Act→World→Prop}{i:Nat}{K:Act→World→Prop}{a:Act}{w:World}(h:wpOp P (Jtnm ops) Q i K a w):wpOp P ops Q i K a w:=by
 unfold wpOp at h ⊢
 rw [Jtnn] at h
 cases hi:ops[i]? with
 | none=>rw [hi] at h;exact h
 | some o=>
  rw [hi] at h
  simp only [Option.map_some] at h ⊢
  obtain ⟨e1,e2,e3,e4⟩:=Jtnl i o
  have hw:Region.wanted (linkO i o) (yielded (Jtnm ops) a.tmps)=Region.wanted o (yielded ops a.tmps):=by
   unfold Region.wanted;rw [e3,Jtns]
  have hx:(linkO i o).wp P a w K Q=o.wp P a w K Q:=by
   unfold Oper.wp
   rw [Jtnk]
   unfold Oper.upon
   rw [e2]
  have hk:(linkO i o).asks P a w=o.asks P a w:=by
   unfold Oper.asks
   rw [Jtnk]
  rw [hw,hx,hk,e2] at h
  exact h
theorem Jtnq{P:Program}{ops:Array Oper}{Q:Exit→Act→World→Prop}:∀ (n:Nat) (listed:Array Bool) (a:Act) (w:World),listed.getD 0 false=true→wpAny P .any (Jtnm ops) Q n listed a w→wpAny P .any ops Q n listed a w:=by
 intro n
 induction n with
 | zero=>intro listed a w h0 h;unfold wpAny at h ⊢;rw [Jtnp h0] at h;exact h
 | succ n ih=>
  intro listed a w h0 h
  unfold wpAny at h ⊢
  rw [Jtnp h0] at h
  refine ⟨h.1,fun i hi=>wpOp_mono (fun a w hk=>ih _ _ _ (getD_set_true h0) hk) (Jtnr (h.2 i hi))⟩
theorem hoist{P:Program}{ops:Array Oper}{jos:List IOp}{Q:Exit→Act→World→Prop}{a:Act}{w:World}(hok:Jthc ops jos=true)(hQ:∀ c a w,¬ Q (.panic c) a w) (hout:¬ LetsOut Q)
  (h:wpAny P .any (Jtnm ops) Q (Jtnm ops).size (Array.replicate (Jtnm ops).size false) a w):wpAny P .any ops Q ops.size (Array.replicate ops.size false) a w:=by
 unfold Jthc at hok
 simp only [Bool.and_eq_true] at hok
 obtain ⟨⟨⟨⟨h1,h2⟩,h3⟩,h4⟩,_⟩:=hok
 rw [Jtno] at h
 cases h0:ops[0]? with
 | none=>rw [h0] at h4;cases h4
 | some o=>
  rw [h0] at h4
  simp only [Bool.and_eq_true,Option.isNone_iff_eq_none] at h4
  obtain ⟨⟨m1,m2⟩,m3⟩:=h4
  have hsz:0<ops.size:=(Array.getElem?_eq_some_iff.1 h0).1
  obtain ⟨n,hn⟩:∃ n,ops.size=n+1:=⟨ops.size-1,by omega⟩
  obtain ⟨x,hx⟩:∃ x,o.op=.move x:=by
   cases ho:o.op with
   | move x=>exact ⟨x,rfl⟩
   | _=>rw [ho] at m1;simp [Jtlm] at m1
  have hex:∀ w,(execOp a.eval o).run P w=.ok (.value (a.eval x)) w:=by
   intro w
   unfold execOp
   rw [hx];rfl
  have hy:Yields P ops o (a.eval x) a:=.inl ⟨by unfold Region.wanted;rw [m2],hex⟩
  have hr0:0∈Region.ready .any (Jtnm ops) (Array.replicate ops.size false):=by
   have h3':0∈Region.ready .any ops (Array.replicate ops.size false):=by simpa using h3
   unfold Region.ready at h3' ⊢
   rw [List.mem_filter] at h3' ⊢
   rw [Jtno]
   refine ⟨h3'.1,?_⟩
   rw [Jtnn]
   have:(ops[0]?).map (linkO 0)=ops[0]?:=by rw [h0];rfl
   rw [this];exact h3'.2
  have hstep:wpAny P .any (Jtnm ops) Q n ((Array.replicate ops.size false).setIfInBounds 0 true) (a.put o.dst (a.eval x)) w:=by
   rw [hn] at h
   unfold wpAny at h
   rw [←hn] at h
   have h5:=h.2 0 hr0
   unfold wpOp at h5
   rw [Jtnn,h0] at h5
   simp only [Option.map_some] at h5
   have el:linkO 0 o=o:=rfl
   rw [el] at h5
   have hw:Region.wanted o (yielded (Jtnm ops) a.tmps)=true:=by unfold Region.wanted;rw [m2]
   rw [if_pos hw] at h5
   rcases h5 with h5 | ⟨_,h5⟩
   ·unfold Oper.wp at h5
    rw [hex w] at h5
    exact h5
   ·exact absurd h5 hout
  have hl0:((Array.replicate ops.size false).setIfInBounds 0 true).getD 0 false=true:=by simp [hsz]
  have hfin:=Jtnq n _ _ _ hl0 hstep
  rw [hn]
  have:=wpAny_take (md:=.any) (P:=P) (ops:=ops) (Q:=Q) (fuel:=n) h0 h1 h2 (by simpa using h3) (fun c a w h=>absurd h (hQ _ _ _)) hy hfin
  rwa [hn] at this
section
variable {P:Program}
theorem Jt34{q:Bool}{io:AO}{dst:Option Nat}{K:ASt→Prop}{QP QP':AV→ASt→Prop}{g:Option (Nat × Bool)} (hp:noPan ⟨dst,io,g,q⟩=true):AWio P q io dst K QP=AWio P q io dst K QP':=by
 funext st
 cases io
 case pan=>simp [noPan] at hp
 case call=>simp [noPan] at hp
 case callv=>simp [noPan] at hp
 case asg x=>cases x<;>(unfold AWio;rfl)
 all_goals (unfold AWio;rfl)
theorem Jtsa {A:List (List Nat)} {n:Nat}:∀ {ios:List IOp} {j:Nat},(marked A n j ios).all noPan=ios.all noPan:=by
 intro ios
 induction ios with
 | nil=>intro j;rfl
 | cons o ios ih=>
  intro j
  show (noPan { o with q:=!Jt7u A n j}&&(marked A n (j+1) ios).all noPan)=(noPan o&&ios.all noPan)
  rw [ih];rfl
theorem Jt4k{QP QP':AV→ASt→Prop}:∀ {os:List IOp} {K:ASt→Prop},os.all noPan=true→AWops P QP os K=AWops P QP' os K:=by
 intro os
 induction os with
 | nil=>intro K _;rfl
 | cons o os ih=>
  intro K hp
  rw [List.all_cons,Bool.and_eq_true] at hp
  obtain ⟨dst,io,g,q⟩:=o
  show AWop P ⟨dst,io,g,q⟩ (AWops P QP os K) QP=AWop P ⟨dst,io,g,q⟩ (AWops P QP' os K) QP'
  rw [ih (K:=K) hp.2]
  funext st
  unfold AWop
  simp only [Jt34 (P:=P) (K:=AWops P QP' os K) (QP:=QP) (QP':=QP') hp.1]
theorem Jt7i{f:Nat→Option AT}{QP:AV→ASt→Prop}{K:ASt→Prop}{st:ASt}:∀ {l:List Nat} {t:AT},altL f l=some t→AWT P QP t K st→∀ j∈l,∃ t',f j=some t'∧AWT P QP t' K st:=by
 intro l
 induction l with
 | nil=>intro t h _ j hj;cases hj
 | cons j l ih=>
  intro t h hw
  cases l with
  | nil=>
   intro k hk
   simp only [List.mem_singleton] at hk
   subst hk
   exact ⟨t,h,hw⟩
  | cons k l=>
   simp only [altL] at h
   split at h
   ·rename_i a b h1 h2
    injection h with h;subst h
    intro i hi
    rcases List.mem_cons.1 hi with rfl | hi
    ·exact ⟨a,h1,hw.1⟩
    ·exact ih h2 hw.2 i hi
   ·cases h
theorem Jtfo{N:Nat}{st:ASt}{g:Gh}{a:Act}{w:World}(hs:Sim N st g a w){o:Oper}{s:TypeId}{f:Nat}{fd:Field}{n:Nat}{x:Operand}{y:Opd}{z:AV}(ho:o.op=.fieldAddr s x f)(hf:Jtft P s f=some fd)
  (hn:szOf P fd.type=some n) (hn0:n≠0) (hc:cOpd x=some y) (hv:opV st (.faddr fd.offset y)=some z):∃ vv,∀ w,(execOp a.eval o).run P w=.ok (.value vv) w:=by
 obtain ⟨i,hi,rfl⟩:=Jt1e1 hn
 have hex:∀ ad,a.eval x=.pointer (some ad)→∀ w,(execOp a.eval o).run P w=.ok (.value (.pointer (some (ad.add fd.offset)))) w:=by
  intro ad h w
  unfold Jtft at hf
  split at hf
  ·rename_i fs hu
   unfold execOp
   simp [ho,Instr.fieldAt,run_underlying hu,hf,h,Instr.sureAddr,fieldPlace,Jt17f hi,hn0]
  ·cases hf
 simp only [opV] at hv
 split at hv
 ·rename_i b off hy
  obtain ⟨r,hr,hp⟩:=(Jtfd hs hc hy).1.ptr_inv
  exact ⟨_,hex _ hp⟩
 ·rename_i cells hy
  obtain ⟨ad,vs,hp,_⟩:=(Jtfd hs hc hy).1.rptr_inv
  exact ⟨_,hex _ hp⟩
 ·cases hv
theorem Jthn{N:Nat}{st:ASt}{g:Gh}{a:Act}{w:World}(hs:Sim N st g a w){o:Oper}{t e:TypeId}{n:Nat}{x i:Operand}{y k:Opd}{z:AV}(ho:o.op=.indexAddr t x i)(hu:P.underlying t=some (.slice e))
  (hn:szOf P e=some n) (hc:cOpd x=some y) (hi:cOpd i=some k) (hv:opV st (.iaddr n y k)=some z):∃ vv,∀ w,(execOp a.eval o).run P w=.ok (.value vv) w:=by
 obtain ⟨inf,hinf,rfl⟩:=Jt1e1 hn
 have hex:∀ (ad:Addr) (len cap:Nat) kk ix,a.eval x=.slice (some ad) len cap→a.eval i=.int kk ix→0≤ix→ix<len→
   ∀ w,(execOp a.eval o).run P w=.ok (.value (.pointer (some (ad.add (ix.toNat*inf.size))))) w:=by
  intro ad len cap kk ix h1 h2 h3 h4 w
  unfold execOp
  simp [ho,h1,h2,Instr.indexAt,asIntOf,run_underlying hu,h3,h4,Jt17f hinf]
 simp only [opV] at hv
 split at hv
 ·rename_i rows ix hy hk
  obtain ⟨kk,hki⟩:=Jt7q hs hi hk
  obtain ⟨A,cap,hA,hcs⟩:=(Jtfd hs hc hy).1.d_inv.sl_inv
  split at hv
  ·rename_i h0
   split at hv
   ·rename_i row hrow
    have hlt:ix.toNat<rows.length:=(lgS.1 hrow).1
    rcases hcs with rfl | ⟨ad,esz,vs,rfl,_⟩
    ·simp at hlt
    ·exact ⟨_,hex _ _ _ _ _ hA hki h0 (by omega)⟩
   ·cases hv
  ·cases hv
 ·rename_i b off e' len ix hy hk
  obtain ⟨kk,hki⟩:=Jt7q hs hi hk
  obtain ⟨r,cap,A,hr,hA,hcap,hne,hroom⟩:=(Jtfd hs hc hy).1.hsl_inv
  split at hv
  ·rename_i h
   have hA2:=hne (by omega)
   subst hA2
   exact ⟨_,hex _ _ _ _ _ hA hki h.2.1 h.2.2⟩
  ·cases hv
 ·cases hv
theorem Jthl{N:Nat}{st:ASt}{g:Gh}{a:Act}{w:World}(hs:Sim N st g a w){o:Oper}{t e:TypeId}{n len:Nat}{x i:Operand}{y k:Opd}{z:AV}(ho:o.op=.indexAddr t x i)(hu:P.underlying t=some (.array len e))
  (hn:szOf P e=some n) (hc:cOpd x=some y) (hi:cOpd i=some k) (hv:opV st (.iaddrA len n y k)=some z):∃ vv,∀ w,(execOp a.eval o).run P w=.ok (.value vv) w:=by
 obtain ⟨inf,hinf,rfl⟩:=Jt1e1 hn
 have hex:∀ (ad:Addr) kk ix,a.eval x=.pointer (some ad)→a.eval i=.int kk ix→0≤ix→ix<len→
   ∀ w,(execOp a.eval o).run P w=.ok (.value (.pointer (some (ad.add (ix.toNat*inf.size))))) w:=by
  intro ad kk ix h1 h2 h3 h4 w
  unfold execOp
  simp [ho,h1,h2,Instr.indexAt,asIntOf,Instr.sureAddr,run_underlying hu,h3,h4,Jt17f hinf]
 simp only [opV] at hv
 split at hv
 ·rename_i b off ix hy hk
  obtain ⟨kk,hki⟩:=Jt7q hs hi hk
  obtain ⟨r,hr,hp⟩:=(Jtfd hs hc hy).1.ptr_inv
  split at hv
  ·rename_i h;exact ⟨_,hex _ _ _ hp hki h.1 h.2⟩
  ·cases hv
 ·rename_i cells ix hy hk
  obtain ⟨kk,hki⟩:=Jt7q hs hi hk
  obtain ⟨ad,vs,hp,_⟩:=(Jtfd hs hc hy).1.rptr_inv
  split at hv
  ·rename_i h;exact ⟨_,hex _ _ _ hp hki h.1 h.2⟩
  ·cases hv
 ·cases hv
theorem Jt1e4{N:Nat}{st:ASt}{g:Gh}{a:Act}{w:World}(hs:Sim N st g a w){ops:Array Oper}{o:Oper}{io:IOp}{K:ASt→Prop}{QP:AV→ASt→Prop}(hc:cOper P N ops o=some io)(hm:Jtlo o.op=true)(hg:o.guard=none)
  (h:AWop P io K QP st):∃ vv,∀ w,(execOp a.eval o).run P w=.ok (.value vv) w:=by
 cases hop:o.op with
 | move x=>exact ⟨a.eval x,fun w=>by unfold execOp;rw [hop];rfl⟩
 | fieldAddr s x f=>
  unfold cOper at hc
  split at hc
  ·cases hc
  ·rename_i aio haio
   split at hc
   ·rw [hg] at hc
    simp only at hc
    injection hc with hc;subst hc
    have h2:=h.2
    simp only at h2
    rw [hop] at haio
    simp only [cOp] at haio
    split at haio
    ·rename_i fd hf
     split at haio
     ·rename_i n hn
      split at haio
      ·cases haio
      ·rename_i hn0
       obtain ⟨z,hz,rfl⟩:=Jtcb haio
       obtain ⟨v,hv,_⟩:=h2
       exact Jtfo hs hop hf hn hn0 hz hv
     ·cases haio
    ·cases haio
   ·cases hc
 | indexAddr t x i=>
  unfold cOper at hc
  split at hc
  ·cases hc
  ·rename_i aio haio
   split at hc
   ·rw [hg] at hc
    simp only at hc
    injection hc with hc;subst hc
    have h2:=h.2
    simp only at h2
    rw [hop] at haio
    simp only [cOp] at haio
    split at haio
    ·rename_i e hu
     split at haio
     ·rename_i n hn
      obtain ⟨z1,z2,h1,h3,rfl⟩:=Jtcc haio
      obtain ⟨v,hv,_⟩:=h2
      exact Jthn hs hop hu hn h1 h3 hv
     ·cases haio
    ·rename_i len e hu
     split at haio
     ·rename_i n hn
      obtain ⟨z1,z2,h1,h3,rfl⟩:=Jtcc haio
      obtain ⟨v,hv,_⟩:=h2
      exact Jthl hs hop hu hn h1 h3 hv
     ·cases haio
    ·cases haio
   ·cases hc
 | _=>rw [hop] at hm;simp [Jtlo] at hm
theorem Jtte{tk:Op→Bool}(htk:∀ op,tk op=true→Jtlo op=true){N:Nat}{ops:Array Oper}{jos:List IOp}{K:ASt→Prop}{Q:Exit→Act→World→Prop}(hc:cOpers P N ops ops.toList=some jos)(hns:Region.noSelect ops=true)(hQ:∀ c a w,¬ Q (.panic c) a w) (hout:¬ LetsOut Q) :
  ∀ (n:Nat) (listed:Array Bool) (t:AT) (st:ASt) (g:Gh) (a:Act) (w:World),mkTree tk ops jos n listed=some t→Sim N st g a w→AWT P (fun _ _=>False) t K st→GoesOn N st g a w K (fun _ _=>False) (Q .normal) Q→wpAny P .any ops Q n listed a w:=by
 obtain ⟨hl,hget⟩:=Jta7 hc
 intro n
 induction n with
 | zero=>
  intro listed t st g a w ht hs h hg
  simp only [mkTree] at ht
  split at ht
  ·rename_i he
   injection ht with ht;subst ht
   exact ⟨by simpa using he,hg.1 st g a w h hs ⟨Tr.refl _ _ _,fun r hr=>.inl hr,fun _ _ h=>h,Nat.le_refl _,rfl⟩⟩
  ·cases ht
 | succ n ih=>
  intro listed t st g a w ht hs h hg
  have one:∀ (j:Nat) (t':AT),(match jos[j]?,mkTree tk ops jos n (listed.setIfInBounds j true) with | some o,some t=>some (AT.step o t) | _,_=>none)=some t'→AWT P (fun _ _=>False) t' K st→
    wpOp P ops Q j (wpAny P .any ops Q n (listed.setIfInBounds j true)) a w∧j<ops.size:=by
   intro j t' h1 h2
   split at h1
   ·rename_i io tr hio htr
    injection h1 with h1;subst h1
    have hj:j<ops.toList.length:=by rw [←hl];exact (lgS.1 hio).1
    have ho:ops.toList[j]?=some ops.toList[j]:=by simp
    obtain ⟨io',e1,e2⟩:=hget j _ ho
    rw [hio] at e1;injection e1 with e1;subst e1
    have hk:ops[j]?=some ops.toList[j]:=by rw [←ho,Array.getElem?_toList]
    refine ⟨?_,by simpa using hj⟩
    refine Jt4c (K:=AWT P (fun _ _=>False) tr K) (next:=wpAny P .any ops Q n (listed.setIfInBounds j true)) hs hk e2 rfl h2 ⟨?_,fun x v st' g' a' w' hq=>hq.elim⟩
    intro st' g' a' w' hK hsim hst
    exact ih _ tr st' g' a' w' htr hsim hK (hg.step hst)
   ·cases h1
  simp only [mkTree] at ht
  split at ht
  ·rename_i he
   injection ht with ht;subst ht
   exact wpAny_done (by simpa using he) (hg.1 st g a w h hs ⟨Tr.refl _ _ _,fun r hr=>.inl hr,fun _ _ h=>h,Nat.le_refl _,rfl⟩) (n+1)
  ·rename_i hne
   split at ht
   ·rename_i j hj
    obtain ⟨h1,hjs⟩:=one j t ht h
    have hm:=List.mem_of_find?_eq_some hj
    have htk:=List.find?_some hj
    unfold takeOk at htk
    rw [Bool.and_eq_true] at htk
    obtain ⟨hf,hmv⟩:=htk
    obtain ⟨o,ho⟩:∃ o,ops[j]?=some o:=⟨ops[j],by simp [hjs]⟩
    rw [ho] at hmv
    simp only [Bool.and_eq_true,Option.isNone_iff_eq_none] at hmv
    obtain ⟨⟨m1,m2⟩,m3⟩:=hmv
    obtain ⟨vv,hex⟩:∃ vv,∀ w,(execOp a.eval o).run P w=.ok (.value vv) w:=by
     split at ht
     ·rename_i io tr hio htr
      injection ht with ht;subst ht
      have hjt:j<ops.toList.length:=by simpa using hjs
      have ho2:ops.toList[j]?=some o:=by rw [Array.getElem?_toList];exact ho
      obtain ⟨io',e1,e2⟩:=hget j _ ho2
      rw [hio] at e1;injection e1 with e1;subst e1
      exact Jt1e4 hs e2 (htk _ m1) m2 h
     ·cases ht
    have hy:Yields P ops o vv a:=.inl ⟨by unfold Region.wanted;rw [m2],hex⟩
    unfold wpOp at h1
    rw [ho] at h1
    simp only at h1
    have hw:Region.wanted o (yielded ops a.tmps)=true:=by unfold Region.wanted;rw [m2]
    rw [if_pos hw] at h1
    rcases h1 with h1 | ⟨_,h1⟩
    ·unfold Oper.wp at h1
     rw [hex w] at h1
     exact wpAny_take ho hns hf (by simpa using hm) (fun c a w h=>absurd h (hQ _ _ _)) hy h1
    ·exact absurd h1 hout
   ·refine wpAny_all rfl (fun h0=>hne (by rw [h0];rfl)) fun i hi=>?_
    obtain ⟨t',h1,h2⟩:=Jt7i ht h i hi
    exact (one i t' h1 h2).1
theorem Jt1fa{N:Nat}{ks:List Nat}{ops:Array Oper}{draw:Bool}{r:IC}(h:treeIC P N ks ops draw=some r):
  draw=true∧Region.noSelect ops=true∧∃ (tk:Op→Bool) (jos:List IOp) (t:AT),(∀ op,tk op=true→Jtlo op=true)∧cOpers P N ops ops.toList=some jos∧mkTree tk ops jos ops.size (Array.replicate ops.size false)=some t∧r=.tree t:=by
 unfold treeIC at h
 split at h
 ·rename_i hd
  split at h
  ·rename_i jos hj
   rw [omS] at h
   obtain ⟨t,ht,rfl⟩:=h
   exact ⟨hd.1,hd.2.2,Jtln,jos,t,fun op h=>by cases op<;>simp_all [Jtln,Jtlo],hj,ht,rfl⟩
  ·cases h
 ·split at h
  ·rename_i hd
   split at h
   ·rename_i jos hj
    rw [omS] at h
    obtain ⟨t,ht,rfl⟩:=h
    exact ⟨hd.1,hd.2.2,Jtlo,jos,t,fun op h=>h,hj,ht,rfl⟩
   ·cases h
  ·cases h
end
end Go.AE
