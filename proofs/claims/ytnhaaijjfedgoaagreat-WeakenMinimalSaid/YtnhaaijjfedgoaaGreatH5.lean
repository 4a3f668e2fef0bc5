/- A part of the proof. -/
import Derived.Test.YtnhaaijjfedgoaaGreatH4
set_option linter.unusedVariables false
set_option linter.unusedSimpArgs false
set_option maxRecDepth 4000
namespace Go.AE
open Go
theorem Jt1a8(l:List Int):(sortI l).Pairwise fun a b=>a≤b:=by
 have:=List.pairwise_mergeSort (le:=fun x y:Int=>decide (x≤y)) (fun a b c h1 h2=>by simp at *;omega) (fun a b=>by simp;omega) l
 exact this.imp fun h=>by simpa using h
theorem Jt1ai{l m:List Int}(h1:l.Pairwise fun a b=>a≤b)(h2:m.Pairwise fun a b=>a≤b)(h:l.Perm m):l=m:=
 List.Perm.eq_of_pairwise (fun a b _ _ h h'=>by omega) h1 h2 h
theorem Jt1a7{l m:List Int}(h:l.Perm m):sortI l=sortI m:=
 Jt1ai (Jt1a8 l) (Jt1a8 m) ((List.mergeSort_perm l _).trans (h.trans (List.mergeSort_perm m _).symm))
structure Seen (ks:List Int) (seen:List Nat) (cs:List Int):Prop where
 nd:seen.Nodup
 lt:∀ i∈seen,i<ks.length
 eq:cs=seen.map fun i=>ks.getD i 0
theorem Seen.nil(ks:List Int):Seen ks [] []:=⟨by simp,fun i h=>by simp at h,rfl⟩
theorem Seen.len{ks:List Int}{seen:List Nat}{cs:List Int}(h:Seen ks seen cs):cs.length=seen.length∧seen.length≤ks.length:=by
 refine ⟨by rw [h.eq];simp,?_⟩
 have:=h.nd.length_le_of_subset (l₂:=List.range ks.length) fun i hi=>List.mem_range.2 (h.lt i hi)
 simpa using this
theorem Seen.step{ks:List Int}{seen:List Nat}{cs:List Int}(h:Seen ks seen cs){i:Nat}{k:Int}(hk:ks[i]?=some k) (hi:i∉seen):Seen ks (seen++[i]) (cs++[k]):=by
 refine ⟨?_,fun j hj=>?_,?_⟩
 ·rw [List.nodup_append]
  exact ⟨h.nd,by simp,fun a ha b hb=>by simp at hb;subst hb;rintro rfl;exact hi ha⟩
 ·rcases List.mem_append.1 hj with hj | hj
  ·exact h.lt j hj
  ·simp at hj;subst hj;exact (lgS.1 hk).1
 ·rw [List.map_append,←h.eq];simp [List.getD_eq_getElem?_getD,hk]
theorem Seen.mem{ks:List Int}{seen:List Nat}{cs:List Int}(h:Seen ks seen cs){v:Int}(hv:v∈cs):v∈ks:=by
 rw [h.eq] at hv
 obtain ⟨i,hi,rfl⟩:=List.mem_map.1 hv
 have:=h.lt i hi
 simp [List.getD_eq_getElem?_getD,this]
theorem Seen.done{ks:List Int}{seen:List Nat}{cs:List Int}(h:Seen ks seen cs)(hall:∀ i,i<ks.length→i∈seen):cs.Perm ks:=by
 have hp:seen.Perm (List.range ks.length):=(List.perm_ext_iff_of_nodup h.nd List.nodup_range).2 fun a=>⟨fun ha=>List.mem_range.2 (h.lt a ha),fun ha=>hall a (List.mem_range.1 ha)⟩
 have e:(List.range ks.length).map (fun i=>ks.getD i 0)=ks:=by
  apply List.ext_getElem?
  intro j
  by_cases hj:j<ks.length
  ·simp [hj,List.getD_eq_getElem?_getD]
  ·rw [List.getElem?_eq_none (by simp;omega),List.getElem?_eq_none (by omega)]
 rw [h.eq]
 exact (hp.map _).trans (by rw [e])
def outV(cs:List Int)(q:Nat):AV:=if cs=[] then .hsl0 1 1 else .hsl (q+1) 0 1 cs.length
structure SetT (r' r n:Nat) (seen:List Nat) (cs:List Int) (q:Nat) (T:List Blk):Prop where
 it:T[1]?=some (.glob r' (itO r n seen))
 out:T[q]?=some (.mem (Jt16d (cs.map intRow)))
 ne:q≠1
 z:cs=[]→q=0
 all:∀ k∈T,(∃ rows,k=.mem (Jt16d rows))∨∃ o,k=.glob r' o
theorem SetT.len{r' r n:Nat}{seen:List Nat}{cs:List Int}{q:Nat}{T:List Blk}(h:SetT r' r n seen cs q T):2≤T.length∧q<T.length:=
 ⟨(lgS.1 h.it).1,(lgS.1 h.out).1⟩
theorem SetT.next{r' r n:Nat}{seen:List Nat}{cs:List Int}{q:Nat}{T:List Blk}(h:SetT r' r n seen cs q T)(i:Nat):SetT r' r n (seen++[i]) cs q (T.set 1 (.glob r' (itO r n (seen++[i])))):=by
 refine ⟨by rw [List.getElem?_set_self h.len.1],by rw [List.getElem?_set_ne h.ne.symm];exact h.out,h.ne,h.z,fun k hk=>?_⟩
 rcases List.mem_or_eq_of_mem_set hk with hk | hk
 ·exact h.all k hk
 ·exact .inr ⟨_,hk⟩
theorem SetT.app1{r' r n:Nat}{seen:List Nat}{cs:List Int}{q:Nat}{T:List Blk}(h:SetT r' r n seen cs q T)(k:Int){rows:List (List D)} (hr:rows=(cs++[k]).map intRow):SetT r' r n seen (cs++[k]) q (T.set q (.mem (Jt16d rows))):=by
 subst hr
 refine ⟨by rw [List.getElem?_set_ne h.ne];exact h.it,by rw [List.getElem?_set_self h.len.2],h.ne,fun e=>by simp at e,fun k hk=>?_⟩
 rcases List.mem_or_eq_of_mem_set hk with hk | hk
 ·exact h.all k hk
 ·exact .inl ⟨_,hk⟩
theorem SetT.app2{r' r n:Nat}{seen:List Nat}{cs:List Int}{q:Nat}{T:List Blk}(h:SetT r' r n seen cs q T)(k:Int){rows:List (List D)} (hr:rows=(cs++[k]).map intRow):SetT r' r n seen (cs++[k]) T.length (T++[.mem (Jt16d rows)]):=by
 subst hr
 have hl:=h.len
 refine ⟨by rw [lgA (by omega)];exact h.it,by simp,by omega,fun e=>by simp at e,fun k hk=>?_⟩
 rcases List.mem_append.1 hk with hk | hk
 ·exact h.all k hk
 ·exact .inl ⟨_,List.mem_singleton.1 hk⟩
theorem Jt60{H:List Blk}{n r':Nat}:∀ {T:List Blk},(∀ k∈T,(∃ rows,k=.mem (Jt16d rows))∨∃ o,k=.glob r' o)→WkHs H n T T:=by
 intro T
 induction T with
 | nil=>intro _;exact True.intro
 | cons x T ih=>
  intro h
  refine ⟨?_,ih fun b hb=>h b (by simp [hb])⟩
  rcases h x (by simp) with ⟨rows,rfl⟩ | ⟨o,rfl⟩
  ·exact Jt5o
  ·exact .glob _ _
theorem Jt5y{H X:List Blk}{n:Nat}:WkHs H n X []:=by cases X<;>exact True.intro
theorem get1{a:Blk}{t:List Blk}{j:Nat}:(a::t)[j+1]?=t[j]?:=rfl
theorem set1{a x:Blk}{t:List Blk}{j:Nat}:(a::t).set (j+1) x=a::t.set j x:=rfl
section
variable {P:Program} {p:Nums}
set_option maxHeartbeats 2000000 in
theorem Jtp0(A:All P p)(SI:SortIOk P p)(r:Nat)(ks:List Int)(h0:ks.length≤1000000):Jt51 P p.Yfr [.mp r] [.glob r (mpK ks)] fun o H'=>o=.ret (.d (intsD (sortI ks)))∧H'=[.glob r (mpK ks)]:=by
 refine A.Yfr.run rfl fun R hR=>?_
 (simp (maxSteps:=9^6)[Jtil])
 refine Jt2s (b:=0) (by rfl) (by rfl) ?_
 (simp (maxSteps:=9^6)[])
 refine Jt2p (n:=ks.length) (by rfl) (by rfl) (by omega) (by omega) (by decide) (by rfl) ?_
 (simp (maxSteps:=9^6)[])
 refine Jt2z (b:=0) (by rfl) (by rfl) fun r'=>?_
 (simp (maxSteps:=9^6)[])
 refine Jtf (fun z:List Nat × List Int × Nat × List Blk=>⟨[(9,.ptr 2 0),(3,outV z.2.1 z.2.2.1)],.glob r (mpK ks)::z.2.2.2⟩) (fun z=>Seen ks z.1 z.2.1∧SetT r' r ks.length z.1 z.2.1 z.2.2.1 z.2.2.2) (fun z=>ks.length-z.1.length)
  ([],[],0,[.mem [],.glob r' (itO r ks.length [])]) ⟨Seen.nil ks,⟨rfl,rfl,Nat.zero_ne_one,fun _=>rfl,fun k hk=>by
   simp only [List.mem_cons,List.not_mem_nil,or_false] at hk
   rcases hk with rfl | rfl
   ·exact .inl ⟨[],rfl⟩
   ·exact .inr ⟨_,rfl⟩⟩⟩ (by simp only [outV,if_true];(exact wkA)) ?_
 rintro ⟨seen,cs,q,T⟩ ⟨hs,ht⟩ N hN
 simp only at hs ht hN
 obtain ⟨l1,l2⟩:=hs.len
 (simp (maxSteps:=9^6)[])
 refine Jt2v (b:=0) (bi:=2) (by rfl) (get1.trans ht.it) (by rfl) (fun i k hk hi=>?_) (fun hall=>?_)
 ·have hs':=hs.step hk hi
  have ht':=ht.next i
  have hT1:∀ y,(Blk.glob r (mpK ks)::T).set 2 y=.glob r (mpK ks)::T.set 1 y:=fun y=>rfl
  simp only [hT1]
  obtain ⟨T1,eT1⟩:∃ x,x=T.set 1 (.glob r' (itO r ks.length (seen++[i]))):=⟨_,rfl⟩
  rw [←eT1] at ht' ⊢
  (simp (maxSteps:=9^6)[])
  refine Jt2g (b:=0) (bi:=2) (by rfl) (get1.trans ht'.it) (by rfl) hk ?_
  (simp (maxSteps:=9^6)[])
  have hlen:=hs'.len
  have fin:∀ st' q2 T2,SetT r' r ks.length (seen++[i]) (cs++[k]) q2 T2→Wk 1 st' ⟨[(9,.ptr 2 0),(3,.hsl (q2+1) 0 1 (cs.length+1))],.glob r (mpK ks)::T2⟩→N st':=by
   intro st' q2 T2 h2 hw
   refine hN st' (seen++[i],cs++[k],q2,T2) ⟨hs',h2⟩ ?_ (by simp only [List.length_append,List.length_singleton] at hlen ⊢;omega)
   simp only [outV]
   rw [if_neg (by simp),List.length_append,List.length_singleton];exact hw
  have leaf:∀ {H:List Blk} {q2:Nat} {T2:List Blk},SetT r' r ks.length (seen++[i]) (cs++[k]) q2 T2→WkT H (T2.length+1) (.hsl (q2+1) 0 1 (cs.length+1)) (.hsl (q2+1) 0 1 (cs.length+1))∧WkT H (T2.length+1) (.ptr 2 0) (.ptr 2 0):=by
   intro H q2 T2 h2
   have:=h2.len
   exact ⟨Jt1l6 (by simp only [AV.ren];rw [if_pos (by omega)]),Jt1l6 (by simp only [AV.ren];rw [if_pos (by omega)])⟩
  unfold outV
  by_cases hc:cs=[]
  ·have hq:=ht'.z hc
   subst hc hq
   rw [if_pos rfl]
   (simp (maxSteps:=9^6)[])
   refine Jt1k (b:=1) (ys:=[[D.int .i64 k]]) (by rfl) (get1.trans ht'.out) (by rfl) (by simp) (by decide) (by simp) (by simp) (by simp) ?_ ?_
   ·have h2:=ht'.app1 (rows:=[[D.int .i64 k]]) k rfl
    have hT2:∀ y,(Blk.glob r (mpK ks)::T1).set 1 y=.glob r (mpK ks)::T1.set 0 y:=fun y=>rfl
    simp only [hT2]
    obtain ⟨T2,eT2⟩:∃ x,x=T1.set 0 (.mem (Jt16d [[D.int .i64 k]])):=⟨_,rfl⟩
    rw [←eT2] at h2 ⊢
    (simp (maxSteps:=9^6)[])
    exact fin _ 0 T2 h2 (by refine Wk.of ?_ ?_ (by simp)<;>repeat' (first|exact Jt60 h2.all | (first|exact True.intro|exact ⟨_,rfl,Jt1l6 rfl⟩ | exact ⟨_,rfl,Jt1l4 rfl⟩ | exact ⟨_,rfl,.inl .nild⟩ | exact ⟨_,rfl,.inl .nile⟩ | exact ⟨_,rfl,Jt1l5⟩ | exact Jt1l6 rfl|exact Jt1l4 rfl|exact .inl .nild|exact .inl .nile|exact Jt1l5|exact WkB.same rfl|exact Jt5o|exact Jt5n|exact .dead _|exact .iter _ _|exact .glob _ _|refine Jt5k ?_ ?_|refine And.intro ?_ ?_)|exact ⟨_,rfl,(leaf h2).1⟩ | exact ⟨_,rfl,(leaf h2).2⟩))
   ·have h2:=ht'.app2 (rows:=[[D.int .i64 k]]) k rfl
    simp only [List.cons_append]
    obtain ⟨T2,eT2⟩:∃ x,x=T1++[.mem (Jt16d [[D.int .i64 k]])]:=⟨_,rfl⟩
    rw [←eT2] at h2 ⊢
    (simp (maxSteps:=9^6)[])
    exact fin _ T1.length T2 h2 (by refine Wk.of ?_ ?_ (by simp)<;>repeat' (first|exact Jt60 h2.all | (first|exact True.intro|exact ⟨_,rfl,Jt1l6 rfl⟩ | exact ⟨_,rfl,Jt1l4 rfl⟩ | exact ⟨_,rfl,.inl .nild⟩ | exact ⟨_,rfl,.inl .nile⟩ | exact ⟨_,rfl,Jt1l5⟩ | exact Jt1l6 rfl|exact Jt1l4 rfl|exact .inl .nild|exact .inl .nile|exact Jt1l5|exact WkB.same rfl|exact Jt5o|exact Jt5n|exact .dead _|exact .iter _ _|exact .glob _ _|refine Jt5k ?_ ?_|refine And.intro ?_ ?_)|exact ⟨_,rfl,(leaf h2).1⟩ | exact ⟨_,rfl,(leaf h2).2⟩))
  ·rw [if_neg hc]
   have hpos:0<cs.length:=List.length_pos_iff.2 hc
   have er:cs.map intRow++[[D.int .i64 k]]=(cs++[k]).map intRow:=by simp [intRow]
   (simp (maxSteps:=9^6)[])
   refine Jt1m (b:=q+1) (rows:=cs.map intRow) (ys:=[[D.int .i64 k]]) (by rfl) (get1.trans ht'.out) (by simp) (Jt16t fun _=>rfl) hpos (by rfl) (by simp) (by decide) (by simp) (by simp;omega) (by simp;omega) ?_ ?_
   ·have h2:=ht'.app1 k er
    simp only [set1]
    obtain ⟨T2,eT2⟩:∃ x,x=T1.set q (.mem (Jt16d (cs.map intRow++[[D.int .i64 k]]))):=⟨_,rfl⟩
    rw [←eT2] at h2 ⊢
    (simp (maxSteps:=9^6)[])
    exact fin _ q T2 h2 (by refine Wk.of ?_ ?_ (by simp)<;>repeat' (first|exact Jt60 h2.all | (first|exact True.intro|exact ⟨_,rfl,Jt1l6 rfl⟩ | exact ⟨_,rfl,Jt1l4 rfl⟩ | exact ⟨_,rfl,.inl .nild⟩ | exact ⟨_,rfl,.inl .nile⟩ | exact ⟨_,rfl,Jt1l5⟩ | exact Jt1l6 rfl|exact Jt1l4 rfl|exact .inl .nild|exact .inl .nile|exact Jt1l5|exact WkB.same rfl|exact Jt5o|exact Jt5n|exact .dead _|exact .iter _ _|exact .glob _ _|refine Jt5k ?_ ?_|refine And.intro ?_ ?_)|exact ⟨_,rfl,(leaf h2).1⟩ | exact ⟨_,rfl,(leaf h2).2⟩))
   ·have h2:=ht'.app2 k er
    simp only [List.cons_append]
    obtain ⟨T2,eT2⟩:∃ x,x=T1++[.mem (Jt16d (cs.map intRow++[[D.int .i64 k]]))]:=⟨_,rfl⟩
    rw [←eT2] at h2 ⊢
    (simp (maxSteps:=9^6)[])
    exact fin _ T1.length T2 h2 (by refine Wk.of ?_ ?_ (by simp)<;>repeat' (first|exact Jt60 h2.all | (first|exact True.intro|exact ⟨_,rfl,Jt1l6 rfl⟩ | exact ⟨_,rfl,Jt1l4 rfl⟩ | exact ⟨_,rfl,.inl .nild⟩ | exact ⟨_,rfl,.inl .nile⟩ | exact ⟨_,rfl,Jt1l5⟩ | exact Jt1l6 rfl|exact Jt1l4 rfl|exact .inl .nild|exact .inl .nile|exact Jt1l5|exact WkB.same rfl|exact Jt5o|exact Jt5n|exact .dead _|exact .iter _ _|exact .glob _ _|refine Jt5k ?_ ?_|refine And.intro ?_ ?_)|exact ⟨_,rfl,(leaf h2).1⟩ | exact ⟨_,rfl,(leaf h2).2⟩))
 ·have hp:=Jt1a7 (hs.done hall)
  rw [←hp] at hR
  unfold outV
  by_cases hc:cs=[]
  ·have hq:=ht.z hc
   subst hc hq
   rw [if_pos rfl]
   have g1:(Blk.glob r (mpK ks)::T)[1]?=some (.mem []):=get1.trans ht.out
   have hset:(Blk.glob r (mpK ks)::T).set 1 (.mem [])=Blk.glob r (mpK ks)::T.set 0 (.mem []):=rfl
   (simp (maxSteps:=9^6)[])
   refine Jt19 [1] SI.none (by decide) (by rfl) (by show picks _ [1]=some [.mem []];simp [picks,ht.out,Jt16d]) (by rfl) (by rfl) (by rfl) (by rfl) ?_
   (simp (maxSteps:=9^6)[wback])
   refine hR _ _ (Jt58 (.hsl0 1 1) (.d (.sl [])) [.glob r (mpK ks)] (by rfl) ?_ ⟨by simp [sortI,intsD],rfl⟩)
   refine Wk.of ⟨⟨_,rfl,.inl (.hsl0 _ _)⟩,trivial⟩ ⟨.glob _ _,?_⟩ (by simp)
   exact Jt5y
  ·rw [if_neg hc]
   have hpos:0<cs.length:=List.length_pos_iff.2 hc
   have hl:=ht.len
   (simp (maxSteps:=9^6)[])
   refine Jt19 [q+1] (SI.some cs hc (by omega)) (by simp) (by simp [renL,AV.ren,idx]) (by show picks _ [q+1]=some [.mem (Jt16d (cs.map intRow))];simp only [picks];rw [get1,ht.out]) Jt15m Jt15m (by rfl) (by rfl) ?_
   simp only [wback,set1]
   have hg:(T.set q (.mem (Jt16d ((sortI cs).map intRow))))[q]?=some (.mem (Jt16d ((sortI cs).map intRow))):=by rw [List.getElem?_set_self hl.2]
   obtain ⟨T2,eT2⟩:∃ x,x=T.set q (.mem (Jt16d ((sortI cs).map intRow))):=⟨_,rfl⟩
   rw [←eT2] at hg ⊢
   (simp (maxSteps:=9^6)[])
   refine hR _ _ (Jt58 (.hsl (q+1) 0 1 cs.length) (.d (.sl ((sortI cs).map intRow))) [.glob r (mpK ks)] (by rfl) ?_ ⟨rfl,rfl⟩)
   refine Wk.of ⟨⟨_,rfl,Jt61 (get1.trans hg) (by simp) (by simp [Jt1a6]) (Jt16t fun _=>rfl)⟩,trivial⟩ ⟨.glob _ _,?_⟩ (by simp)
   exact Jt5y
end
end Go.AE
set_option maxRecDepth 4000
namespace Go.AE
open Go
def ClB(k:Blk):Prop:=∀ ρ,k.ren ρ=some k
theorem ClB.glob(r:Nat)(o:Obj):ClB (.glob r o):=fun _=>rfl
theorem ClB.dead:ClB .dead:=fun _=>rfl
theorem Jt15o{l:List AV}(h:∀ x∈l,∀ ρ,x.ren ρ=some x)(ρ:Nat→Option Nat):renL ρ l=some l:=by
 induction l with
 | nil=>rfl
 | cons x l ih=>simp [renL,h x (by simp) ρ,ih fun y hy=>h y (by simp [hy])]
theorem ClB.mem{l:List AV}(h:∀ x∈l,∀ ρ,x.ren ρ=some x):ClB (.mem l):=fun ρ=>by simp [Blk.ren,Jt15o h ρ]
theorem ClB.mps(rs:List Nat):ClB (.mem (rs.map .mp)):=ClB.mem fun x hx ρ=>by obtain ⟨r,_,rfl⟩:=List.mem_map.1 hx;rfl
theorem Jt15e{H:List Blk}(h:∀ k∈H,ClB k)(ρ:Nat→Option Nat):renB ρ H=some H:=by
 induction H with
 | nil=>rfl
 | cons x l ih=>simp [renB,h x (by simp) ρ,ih fun y hy=>h y (by simp [hy])]
theorem ClB.wk{H:List Blk}{n:Nat}{k:Blk}(h:ClB k):WkB H n k k:=by
 cases k with
 | mem cells=>
  refine .same ?_
  have:=h (fun b=>if b<n then some b else none)
  simp only [Blk.ren] at this
  split at this
  ·rename_i cs hcs;injection this with this;injection this with this;rw [hcs,this]
  ·cases this
 | iter s p=>exact .iter _ _
 | glob r o=>exact .glob _ _
 | dead=>exact .dead _
theorem Jt5v{H:List Blk}{n:Nat}:∀ {T:List Blk},(∀ k∈T,ClB k)→∀ {X Y:List Blk},WkHs H n X Y→WkHs H n (T++X) (T++Y):=by
 intro T
 induction T with
 | nil=>intro _ X Y h;exact h
 | cons x T ih=>intro h X Y hx;exact ⟨(h x (by simp)).wk,ih (fun b hb=>h b (by simp [hb])) hx⟩
theorem Jtxp(H:List Blk):∀ (k n:Nat),k+n=H.length→picks H ((List.range' k n))=some (H.drop k):=by
 intro k n
 induction n generalizing k with
 | zero=>intro h;simp [picks,show k=H.length by omega]
 | succ n ih=>
  intro h
  rw [List.range'_succ]
  simp only [picks]
  have hk:k<H.length:=by omega
  rw [lgE hk,ih (k+1) (by omega),List.drop_eq_getElem_cons hk]
theorem Jtl4:∀ (n k b:Nat),k≤b→b<k+n→idx (List.range' k n) b=some (b-k):=by
 intro n
 induction n with
 | zero=>intro k b h1 h2;omega
 | succ n ih=>
  intro k b h1 h2
  rw [List.range'_succ]
  simp only [idx]
  by_cases h:k=b
  ·subst h;simp
  ·rw [if_neg h,ih (k+1) b (by omega) (by omega)];simp;omega
theorem Jt1g3:∀ (bs:List Nat) (H ks:List Blk),picks H bs=some ks→wback H bs ks=H:=by
 intro bs
 induction bs with
 | nil=>intro H ks h;simp [picks] at h;subst h;rfl
 | cons b bs ih=>
  intro H ks h
  simp only [picks] at h
  split at h
  ·rename_i k ks' hk hks
   injection h with h;subst h
   simp only [wback]
   have:H.set b k=H:=by
    apply List.ext_getElem?
    intro j
    rw [List.getElem?_set]
    split
    ·rename_i hj;subst hj;rw [hk];simp [(lgS.1 hk).1]
    ·rfl
   rw [this];exact ih H ks' hks
  ·cases h
theorem Jt16{P:Program}{K:ASt→Prop}{QP:AV→ASt→Prop}{dst:Option Nat}{st:ASt}{ι:Type}{f:Nat}{args:List AV}{C:ι→List Blk}{X:ι→AV}{Pr:ι→Prop}(hcl:∀ k∈st.H,ClB k)
  (ha:renL (idx (List.range' 0 st.H.length)) args=some args) (h:Jt51 P f args st.H fun o H'=>∃ i,Pr i∧o=.ret (X i)∧H'=st.H++C i) (hX:∀ i ρ,(X i).ren ρ=some (X i)) (hC:∀ i,∀ k∈C i,ClB k)
  (hK:∀ i,Pr i→K (put dst (X i) ⟨unview st.env,st.H++C i⟩)):AWcall P false f args dst K QP st:=by
 have hp:=Jtxp st.H 0 st.H.length (by omega)
 rw [List.drop_zero] at hp
 refine .inr ⟨rfl,.inr ⟨List.range' 0 st.H.length,List.nodup_range' ..,args,st.H,st.H,ha,hp,Jt15e hcl _,h.mono ?_⟩⟩
 rintro o H' ⟨i,hi,rfl,rfl⟩
 have hl:(List.range' 0 st.H.length).length=st.H.length:=by simp
 refine ⟨(C i).length,st.H++C i,X i,?_,by rw [hl,List.length_append];exact Nat.le_refl _,hX i _,?_⟩
 ·rw [hl,←List.length_append,List.take_length]
  exact Jt15e (fun k hk=>(List.mem_append.1 hk).elim (hcl k) (hC i k)) _
 ·have:=hK i hi
  rw [hl,List.take_left,List.drop_left,Jt1g3 _ _ _ hp];exact this
structure Maps (H:List Blk) (b:Nat) (rs:List Nat) (kss:List (List Int)):Prop where
 cell:H[b]?=some (.mem (rs.map .mp))
 len:rs.length=kss.length
 map:∀ (j r:Nat) (ks:List Int),rs[j]?=some r→kss[j]?=some ks→∃ i:Nat,H[i]?=some (Blk.glob r (mpK ks))
 cl:∀ k∈H,ClB k
theorem gN1{H X:List Blk}{a b:Blk}:(H++a::b::X)[H.length+1]?=some b:=by rw [List.getElem?_append_right (by omega)];simp
theorem gN2{H X:List Blk}{a b c:Blk}:(H++a::b::c::X)[H.length+2]?=some c:=by rw [List.getElem?_append_right (by omega)];simp
theorem sN1{H X:List Blk}{a b y:Blk}:(H++a::b::X).set (H.length+1) y=H++a::y::X:=by rw [List.set_append_right _ _ (by omega)];simp
theorem sN2{H X:List Blk}{a b c y:Blk}:(H++a::b::c::X).set (H.length+2) y=H++a::b::y::X:=by rw [List.set_append_right _ _ (by omega)];simp
def Exits (kss:List (List Int)) (ts:List Int) (v:Int):Prop:=∃ t∈ts,∃ l,kss[t.toNat]?=some l∧v∈l
section
variable {P:Program} {p:Nums}
set_option maxHeartbeats 2000000 in
theorem Jtof(A:All P p)(b:Block)(H:List Blk)(b0 n:Nat)(rs:List Nat)(kss:List (List Int)) (hm:Maps H b0 rs kss) (hn:rs.length=n) (hs:∀ t∈succsZ b.term,0≤t∧t<rs.length) :
  Jt51 P p.Yft [.hsl b0 0 1 n,b.av] H fun o H'=>∃ x:Nat × List Int,(x.2.Nodup∧∀ v,v∈x.2↔Exits kss (succsZ b.term) v)∧o=.ret (.mp x.1)∧H'=H++[.dead,.glob x.1 (mpK x.2)]:=by
 refine A.Yft.run rfl fun R hR=>?_
 have hb0:b0<H.length:=(lgS.1 hm.cell).1
 have hcs:=Jt1bo A b.term
 have hl2:(succsZ b.term).length≤2:=by unfold succsZ;split;simp;split;simp;simp
 obtain ⟨ts,hts⟩:∃ x,x=succsZ b.term:=⟨_,rfl⟩
 rw [←hts] at hcs hs hl2 hR
 have gb:∀ X:List Blk,(H++X)[b0]?=some (.mem (rs.map .mp)):=fun X=>by rw [lgA hb0];exact hm.cell
 obtain ⟨code,kind,ta,to,els⟩:=b
 simp only [Term.av] at hcs
 (simp (maxSteps:=9^6)[Jtii,Block.av])
 refine Jt2k fun r=>?_
 (simp (maxSteps:=9^6)[])
 (refine Jt17 hcs (by rfl) (by rfl) ?_)
 (simp (maxSteps:=9^6)[])
 obtain ⟨tR,htR⟩:∃ x,x=ts.map fun x=>[I x]:=⟨_,rfl⟩
 have ltR:tR.length=ts.length:=by rw [htR];simp
 rw [←htR]
 have lH:∀ {X:List Blk} {a c:Blk},WkT X (H++[a,c]).length (.hsl b0 0 1 n) (.hsl b0 0 1 n):=fun {X a c}=>Jt1l6 (by simp only [AV.ren,List.length_append,List.length_cons,List.length_nil];rw [if_pos (by omega)])
 have lH3:∀ {X:List Blk} {a c d:Blk},WkT X (H++[a,c,d]).length (.hsl b0 0 1 n) (.hsl b0 0 1 n):=fun {X a c d}=>Jt1l6 (by simp only [AV.ren,List.length_append,List.length_cons,List.length_nil];rw [if_pos (by omega)])
 have lP3:∀ {X:List Blk} {a c d:Blk},WkT X (H++[a,c,d]).length (.ptr (H.length+2) 0) (.ptr (H.length+2) 0):=fun {X a c d}=>Jt1l6 (by simp only [AV.ren,List.length_append,List.length_cons,List.length_nil];rw [if_pos (by omega)])
 refine Jtf (fun z:Nat × List Int=>⟨[(14,AI z.1),(13,AI (ts.length:Int)),(12,.d (.sl tR)),(5,.mp r),(0,.hsl b0 0 1 n)],H++[.dead,.glob r (mpK z.2)]⟩)
  (fun z=>z.1≤ts.length∧z.2.Nodup∧∀ v,v∈z.2↔Exits kss (ts.take z.1) v) (fun z=>ts.length-z.1) (0,[]) ⟨by simp,by simp,fun v=>by simp [Exits]⟩ ?_ ?_
 ·simp only [ltR]
  refine Wk.of ?_ (Jt5v hm.cl ⟨.dead _,.glob _ _,trivial⟩) (by simp)<;>repeat' (first | (first|exact True.intro|exact ⟨_,rfl,Jt1l6 rfl⟩ | exact ⟨_,rfl,Jt1l4 rfl⟩ | exact ⟨_,rfl,.inl .nild⟩ | exact ⟨_,rfl,.inl .nile⟩ | exact ⟨_,rfl,Jt1l5⟩ | exact Jt1l6 rfl|exact Jt1l4 rfl|exact .inl .nild|exact .inl .nile|exact Jt1l5|exact WkB.same rfl|exact Jt5o|exact Jt5n|exact .dead _|exact .iter _ _|exact .glob _ _|refine Jt5k ?_ ?_|refine And.intro ?_ ?_)|exact ⟨_,rfl,lH⟩)
 rintro ⟨k,outs⟩ ⟨i1,i2,i3⟩ N hN
 simp only at i1 i2 i3 hN
 (simp (maxSteps:=9^6)[])
 by_cases h2:k<ts.length
 ·have h2i:(k:Int)<(ts.length:Int):=by omega
  have hw:=Jt1le (k:=k) (by omega)
  have hb:ts[k]?=some ts[k]:=by simp [h2]
  obtain ⟨x,hx⟩:∃ i,i=ts[k]:=⟨_,rfl⟩
  rw [←hx] at hb
  have hr:tR[k]?=some [I x]:=by rw [htR,lgM,hb];rfl
  obtain ⟨x0,x1⟩:=hs x (lmG hb)
  have hxn:x<(n:Int):=by omega
  obtain ⟨rt,hrt⟩:∃ y,rs[x.toNat]?=some y:=⟨_,lgE (by omega)⟩
  obtain ⟨kt,hkt⟩:∃ y,kss[x.toNat]?=some y:=⟨_,lgE (by have:=hm.len;omega)⟩
  obtain ⟨it,hit⟩:=hm.map _ _ _ hrt hkt
  have hitl:=(lgS.1 hit).1
  have gi:∀ X:List Blk,(H++X)[it]?=some (.glob rt (mpK kt)):=fun X=>by rw [lgA hitl];exact hit
  (simp (maxSteps:=9^6)[h2,hr,gb,x0,hxn,lgM,hrt])
  refine Jt2z (b:=it) (by rfl) (gi _) fun r'=>?_
  (simp (maxSteps:=9^6)[])
  refine Jtf (fun z:List Nat × List Int × List Int=>⟨[(22,.ptr (H.length+2) 0),(14,AI k),(13,AI (ts.length:Int)),(12,.d (.sl tR)),(5,.mp r),(0,.hsl b0 0 1 n)],H++[.dead,.glob r (mpK z.2.2),.glob r' (itO rt kt.length z.1)]⟩)
   (fun z=>Seen kt z.1 z.2.1∧z.2.2.Nodup∧∀ v,v∈z.2.2↔v∈outs∨v∈z.2.1) (fun z=>kt.length-z.1.length) ([],[],outs) ⟨Seen.nil _,i2,fun v=>by simp⟩ ?_ ?_
  ·refine Wk.of ?_ (Jt5v hm.cl ⟨.dead _,.glob _ _,.glob _ _,trivial⟩) (by simp)<;>repeat' (first | (first|exact True.intro|exact ⟨_,rfl,Jt1l6 rfl⟩ | exact ⟨_,rfl,Jt1l4 rfl⟩ | exact ⟨_,rfl,.inl .nild⟩ | exact ⟨_,rfl,.inl .nile⟩ | exact ⟨_,rfl,Jt1l5⟩ | exact Jt1l6 rfl|exact Jt1l4 rfl|exact .inl .nild|exact .inl .nile|exact Jt1l5|exact WkB.same rfl|exact Jt5o|exact Jt5n|exact .dead _|exact .iter _ _|exact .glob _ _|refine Jt5k ?_ ?_|refine And.intro ?_ ?_)|exact ⟨_,rfl,lH3⟩ | exact ⟨_,rfl,lP3⟩)
  rintro ⟨seen,cs,o2⟩ ⟨j1,j2,j3⟩ N2 hN2
  simp only at j1 j2 j3 hN2
  (simp (maxSteps:=9^6)[])
  refine Jt2v (b:=it) (bi:=H.length+2) (by rfl) gN2 (gi _) (fun i kk hk hi=>?_) (fun hall=>?_)
  ·have hs':=j1.step hk hi
   have hlen:=hs'.len
   simp only [sN2]
   (simp (maxSteps:=9^6)[])
   refine Jt2g (bi:=H.length+2) (b:=it) (by rfl) gN2 (gi _) hk ?_
   (simp (maxSteps:=9^6)[])
   refine Jt31 (b:=H.length+1) (by rfl) (by rfl) (by rfl) gN1 ?_
   simp only [sN1]
   (simp (maxSteps:=9^6)[])
   refine hN2 _ (seen++[i],cs++[kk],madd o2 kk) ⟨hs',Jts3 j2,fun v=>by
    show v∈madd o2 kk↔v∈outs∨v∈cs++[kk]
    rw [Jtso,j3,List.mem_append,List.mem_singleton,or_assoc]⟩ ?_ (by simp only [List.length_append,List.length_singleton] at hlen ⊢;omega)
   refine Wk.of ?_ (Jt5v hm.cl ⟨.dead _,.glob _ _,.glob _ _,trivial⟩) (by simp)<;>repeat' (first | (first|exact True.intro|exact ⟨_,rfl,Jt1l6 rfl⟩ | exact ⟨_,rfl,Jt1l4 rfl⟩ | exact ⟨_,rfl,.inl .nild⟩ | exact ⟨_,rfl,.inl .nile⟩ | exact ⟨_,rfl,Jt1l5⟩ | exact Jt1l6 rfl|exact Jt1l4 rfl|exact .inl .nild|exact .inl .nile|exact Jt1l5|exact WkB.same rfl|exact Jt5o|exact Jt5n|exact .dead _|exact .iter _ _|exact .glob _ _|refine Jt5k ?_ ?_|refine And.intro ?_ ?_)|exact ⟨_,rfl,lH3⟩ | exact ⟨_,rfl,lP3⟩)
  ·have hp:=j1.done hall
   (simp (maxSteps:=9^6)[hw])
   refine hN _ (k+1,o2) ⟨h2,j2,fun v=>?_⟩ ?_ (by simp only;omega)
   ·show v∈o2↔Exits kss (ts.take (k+1)) v
    rw [j3,i3,hp.mem_iff,List.take_add_one,hb]
    simp only [Exits,Option.toList_some,List.mem_append,List.mem_singleton]
    constructor
    ·rintro (⟨t,h1,l,h3,h4⟩ | h)
     ·exact ⟨t,.inl h1,l,h3,h4⟩
     ·exact ⟨x,.inr rfl,kt,hkt,h⟩
    ·rintro ⟨t,h1 | rfl,l,h3,h4⟩
     ·exact .inl ⟨t,h1,l,h3,h4⟩
     ·rw [hkt] at h3;injection h3 with h3;subst h3;exact .inr h4
   ·refine Wk.of ?_ (Jt5v hm.cl ⟨.dead _,.glob _ _,trivial⟩) (by simp)<;>repeat' (first | (first|exact True.intro|exact ⟨_,rfl,Jt1l6 rfl⟩ | exact ⟨_,rfl,Jt1l4 rfl⟩ | exact ⟨_,rfl,.inl .nild⟩ | exact ⟨_,rfl,.inl .nile⟩ | exact ⟨_,rfl,Jt1l5⟩ | exact Jt1l6 rfl|exact Jt1l4 rfl|exact .inl .nild|exact .inl .nile|exact Jt1l5|exact WkB.same rfl|exact Jt5o|exact Jt5n|exact .dead _|exact .iter _ _|exact .glob _ _|refine Jt5k ?_ ?_|refine And.intro ?_ ?_)|exact ⟨_,rfl,lH⟩)
 ·have ek:k=ts.length:=by omega
  subst ek
  (simp (maxSteps:=9^6)[])
  rw [List.take_length] at i3
  refine hR _ _ (Jt58 (.mp r) (.mp r) (H++[.dead,.glob r (mpK outs)]) (by rfl) ?_ ⟨(r,outs),⟨i2,i3⟩,rfl,rfl⟩)
  exact Wk.of ⟨⟨_,rfl,Jt1l6 rfl⟩,trivial⟩ (Jt5v hm.cl ⟨.dead _,.glob _ _,trivial⟩) (by simp)
end
end Go.AE
set_option maxRecDepth 4000
namespace Go.AE
open Go
structure Qd where (ru rd:Nat) (ks ds:List Int)
def rowQ(q:Qd):List Blk:=[.dead,.dead,.dead,.dead,.glob q.ru (mpK q.ks),.glob q.rd (mpK q.ds)]
def TT:List Qd→List Blk
 | []=>[]
 | q::l=>rowQ q++TT l
theorem TT_len:∀ l:List Qd,(TT l).length=6*l.length:=by
 intro l
 induction l with
 | nil=>rfl
 | cons q l ih=>simp only [TT,List.length_append,ih,rowQ,List.length_cons,List.length_nil];omega
theorem TT_u:∀ {l:List Qd} {j:Nat} {q:Qd},l[j]?=some q→(TT l)[6*j+4]?=some (.glob q.ru (mpK q.ks)):=by
 intro l
 induction l with
 | nil=>intro j q h;simp at h
 | cons q0 l ih=>
  intro j q h
  cases j with
  | zero=>simp at h;subst h;rfl
  | succ j=>exact ih (by simpa using h)
theorem TT_d:∀ {l:List Qd} {j:Nat} {q:Qd},l[j]?=some q→(TT l)[6*j+5]?=some (.glob q.rd (mpK q.ds)):=by
 intro l
 induction l with
 | nil=>intro j q h;simp at h
 | cons q0 l ih=>
  intro j q h
  cases j with
  | zero=>simp at h;subst h;rfl
  | succ j=>exact ih (by simpa using h)
theorem TT_set:∀ {l:List Qd} {j:Nat} {q:Qd} (ks':List Int),l[j]?=some q→(TT l).set (6*j+4) (.glob q.ru (mpK ks'))=TT (l.set j { q with ks:=ks'}):=by
 intro l
 induction l with
 | nil=>intro j q ks' h;simp at h
 | cons q0 l ih=>
  intro j q ks' h
  cases j with
  | zero=>simp at h;subst h;rfl
  | succ j=>
   have:=ih ks' (j:=j) (q:=q) (by simpa using h)
   show rowQ q0++(TT l).set (6*j+4) _=rowQ q0++TT (l.set j _)
   rw [this]
theorem TT_app:∀ (l:List Qd) (q:Qd),TT (l++[q])=TT l++rowQ q:=by
 intro l
 induction l with
 | nil=>intro q;simp [TT]
 | cons q0 l ih=>intro q;show rowQ q0++TT (l++[q])=rowQ q0++TT l++rowQ q;rw [ih,List.append_assoc]
theorem TT_cl:∀ {l:List Qd},∀ k∈TT l,ClB k:=by
 intro l
 induction l with
 | nil=>intro k h;simp [TT] at h
 | cons q l ih=>
  intro k h
  rcases List.mem_append.1 h with h | h
  ·simp only [rowQ,List.mem_cons,List.not_mem_nil,or_false] at h
   rcases h with rfl | rfl | rfl | rfl | rfl | rfl
   ·exact .dead
   ·exact .dead
   ·exact .dead
   ·exact .dead
   ·exact .glob _ _
   ·exact .glob _ _
  ·exact ih k h
def cellsM(rs:List Nat)(n:Nat):List AV:=rs.map .mp++List.replicate (n-rs.length) .nilm
theorem Jtak{rs:List Nat}{n:Nat}(h:rs.length≤n):(cellsM rs n).length=n:=by simp [cellsM];omega
theorem Jtam{rs:List Nat}{n k:Nat}(hk:rs.length=k)(h:k<n)(r:Nat):(cellsM rs n).take k++AV.mp r::(cellsM rs n).drop (k+1)=cellsM (rs++[r]) n:=by
 subst hk
 unfold cellsM
 have e:n-rs.length=(n-(rs++[r]).length)+1:=by simp;omega
 rw [List.take_append_of_le_length (by simp),List.take_of_length_le (by simp),e,List.replicate_succ,List.drop_append]
 simp
theorem Jtaj{rs:List Nat}{n:Nat}(h:rs.length=n):cellsM rs n=rs.map .mp:=by simp [cellsM,h]
theorem Jtal(n:Nat):(List.replicate n [AV.nilm]).flatten=cellsM [] n:=by
 simp [cellsM]
theorem Jtai{rs:List Nat}{n:Nat}:ClB (.mem (cellsM rs n)):=ClB.mem fun x hx ρ=>by
 rcases List.mem_append.1 hx with h | h
 ·obtain ⟨r,_,rfl⟩:=List.mem_map.1 h;rfl
 ·rw [List.eq_of_mem_replicate h];rfl
def regsL(f:Func):List Int:=f.blocks.flatMap fun b=>b.code.flatMap (fun i=>[i.a,i.b])++[b.term.a]
theorem Jt1fp{b:Block}{v:Int}{k:Nat}(h:usedC b v k=true):∃ i∈b.code,i.a=v∨i.b=v:=by
 unfold usedC at h
 rw [List.any_eq_true] at h
 obtain ⟨j,_,h⟩:=h
 split at h
 ·rename_i i hi
  refine ⟨i,lmG hi,?_⟩
  simp only [useI,Bool.and_eq_true,Bool.or_eq_true,beq_iff_eq] at h
  exact h.1.imp And.right And.right
 ·cases h
theorem LiveAt.regs{f:Func}{v:Int}{i:Nat}(h:LiveAt f v i):v∈regsL f:=by
 refine h.closed (S:=fun _=>v∈regsL f) (fun i b hb hu=>?_) fun i b t _ _ h _=>h
 refine List.mem_flatMap.2 ⟨b,lmG hb,?_⟩
 unfold usedZ at hu
 rw [Bool.or_eq_true] at hu
 rcases hu with hu | hu
 ·obtain ⟨i,hi,h⟩:=Jt1fp hu
  refine List.mem_append_left _ (List.mem_flatMap.2 ⟨i,hi,?_⟩)
  rcases h with h | h<;>simp [h]
 ·simp only [Bool.and_eq_true,beq_iff_eq] at hu
  exact List.mem_append_right _ (by simp [hu.1.2])
structure SolJ (f:Func) (l:List Qd):Prop where
 len:l.length=f.blocks.length
 at_:∀ j q b,l[j]?=some q→f.blocks[j]?=some b→q.ks.Nodup∧(∀ v∈q.ks,LiveAt f v j)∧(∀ v,usedZ b v=true→v∈q.ks)∧q.ds=(scanZ b).2
def sumQ(l:List Qd):Nat:=(l.map fun q=>q.ks.length).sum
theorem sum_le{α:Type}(g:α→Nat)(c:Nat):∀ {l:List α},(∀ x∈l,g x≤c)→(l.map g).sum≤l.length*c:=by
 intro l
 induction l with
 | nil=>intro _;simp
 | cons x l ih=>
  intro h
  have:=ih fun y hy=>h y (by simp [hy])
  have:=h x (by simp)
  simp only [List.map_cons,List.sum_cons,List.length_cons,Nat.add_mul,Nat.one_mul];omega
theorem SolJ.sum{f:Func}{l:List Qd}(h:SolJ f l):sumQ l≤f.blocks.length*(regsL f).length:=by
 rw [←h.len]
 refine sum_le _ _ fun q hq=>?_
 obtain ⟨j,hj⟩:=List.getElem?_of_mem hq
 have hjl:=(lgS.1 hj).1
 obtain ⟨b,hb⟩:∃ b,f.blocks[j]?=some b:=⟨_,lgE (by rw [←h.len];exact hjl)⟩
 obtain ⟨h1,h2,_,_⟩:=h.at_ j q b hj hb
 exact h1.length_le_of_subset fun v hv=>(h2 v hv).regs
theorem Jt1e0{α:Type}(g:α→Nat):∀ {l:List α} {j:Nat} {x y:α},l[j]?=some x→((l.set j y).map g).sum+g x=(l.map g).sum+g y:=by
 intro l
 induction l with
 | nil=>intro j x y h;simp at h
 | cons z l ih=>
  intro j x y h
  cases j with
  | zero=>simp at h;subst h;simp;omega
  | succ j=>
   have:=ih (j:=j) (x:=x) (y:=y) (by simpa using h)
   simp only [List.set_cons_succ,List.map_cons,List.sum_cons];omega
def Jt52(f:Func)(l:List Qd)(j:Nat):Prop:=∀ b q,f.blocks[j]?=some b→l[j]?=some q→∀ v,Exits (l.map fun q=>q.ks) (succsZ b.term) v→v∉q.ds→v∈q.ks
theorem SolJ.done{f:Func}{l:List Qd}(h:SolJ f l)(hc:∀ j,j<f.blocks.length→Jt52 f l j){j:Nat}{q:Qd}(hq:l[j]?=some q) (v:Int):v∈q.ks↔LiveAt f v j:=by
 constructor
 ·intro hv
  have hjl:=(lgS.1 hq).1
  obtain ⟨b,hb⟩:∃ b,f.blocks[j]?=some b:=⟨_,lgE (by rw [←h.len];exact hjl)⟩
  exact (h.at_ j q b hq hb).2.1 v hv
 ·intro hl
  have ex:∀ i b,f.blocks[i]?=some b→∃ q,l[i]?=some q:=fun i b hb=>⟨_,lgE (by rw [h.len];exact (lgS.1 hb).1)⟩
  obtain ⟨q2,h2,h3⟩:=hl.closed (S:=fun i=>∃ q,l[i]?=some q∧v∈q.ks) (fun i b hb hu=>by
    obtain ⟨q,hq⟩:=ex i b hb
    exact ⟨q,hq,(h.at_ i q b hq hb).2.2.1 v hu⟩) (fun i b t hb ht hS hd=>by
    obtain ⟨q,hq⟩:=ex i b hb
    obtain ⟨q2,h2,h3⟩:=hS
    refine ⟨q,hq,hc i (lgS.1 hb).1 b q hb hq v ⟨t,ht,q2.ks,by rw [lgM,h2];rfl,h3⟩ ?_⟩
    rw [(h.at_ i q b hq hb).2.2.2,(Jt17l b).1];simp [hd])
  rw [hq] at h2;injection h2 with h2;subst h2;exact h3
end Go.AE
set_option maxRecDepth 8000
namespace Go.AE
open Go
theorem Jt5r{H X:List Blk}{n:Nat}{l:List Qd}:WkHs H n (TT l++X) (TT l):=by
 have:=Jt5v (H:=H) (n:=n) (T:=TT l) TT_cl (X:=X) (Y:=[]) Jt5y
 rwa [List.append_nil] at this
theorem Jt5q{H:List Blk}{n:Nat}{l:List Qd}:WkHs H n (TT l) (TT l):=by
 have:=Jt5v (H:=H) (n:=n) (T:=TT l) TT_cl (X:=[]) (Y:=[]) trivial
 rwa [List.append_nil] at this
def ruL(l:List Qd):List Nat:=l.map fun q=>q.ru
@[simp] theorem Jt16y(l:List Qd):(ruL l).length=l.length:=by simp [ruL]
theorem Jt16w(l:List Qd)(q:Qd):ruL (l++[q])=ruL l++[q.ru]:=by simp [ruL]
theorem Jt16x{l:List Qd}{j:Nat}{q:Qd}(h:l[j]?=some q):(ruL l)[j]?=some q.ru:=by rw [ruL,lgM,h];rfl
theorem Jt16z{l:List Qd}{j:Nat}{q:Qd}(h:l[j]?=some q) (ks:List Int):ruL (l.set j { q with ks:=ks})=ruL l:=by
 apply List.ext_getElem?
 intro i
 rw [ruL,ruL,lgM,lgM,List.getElem?_set]
 split
 ·rename_i hi;subst hi
  rw [h];simp [(lgS.1 h).1]
 ·rfl
def rdL(l:List Qd):List Nat:=l.map fun q=>q.rd
@[simp] theorem Jty6(l:List Qd):(rdL l).length=l.length:=by simp [rdL]
theorem Jty4(l:List Qd)(q:Qd):rdL (l++[q])=rdL l++[q.rd]:=by simp [rdL]
theorem Jty5{l:List Qd}{j:Nat}{q:Qd}(h:l[j]?=some q):(rdL l)[j]?=some q.rd:=by rw [rdL,lgM,h];rfl
theorem Jty7{l:List Qd}{j:Nat}{q:Qd}(h:l[j]?=some q) (ks:List Int):rdL (l.set j { q with ks:=ks})=rdL l:=by
 apply List.ext_getElem?
 intro i
 rw [rdL,rdL,lgM,lgM,List.getElem?_set]
 split
 ·rename_i hi;subst hi
  rw [h];simp [(lgS.1 h).1]
 ·rfl
section
variable {a b c:Blk} {l:List Qd} {n:Nat} {d o it:Blk} {X:List Blk}
theorem q_it(h:l.length=n):(a::b::c::(TT l++d::o::it::X))[6*n+5]?=some it:=by
 subst h
 show (TT l++d::o::it::X)[6*l.length+2]?=some it
 rw [←TT_len l];exact gN2
theorem q_o(h:l.length=n):(a::b::c::(TT l++d::o::X))[6*n+4]?=some o:=by
 subst h
 show (TT l++d::o::X)[6*l.length+1]?=some o
 rw [←TT_len l];exact gN1
theorem q_sit(h:l.length=n)(y:Blk):(a::b::c::(TT l++d::o::it::X)).set (6*n+5) y=a::b::c::(TT l++d::o::y::X):=by
 subst h
 show a::b::c::(TT l++d::o::it::X).set (6*l.length+2) y=_
 rw [←TT_len l,sN2]
theorem q_u{j:Nat}{q:Qd}(h:l[j]?=some q):(a::b::c::(TT l++X))[6*j+7]?=some (.glob q.ru (mpK q.ks)):=by
 show (TT l++X)[6*j+4]?=_
 have:=TT_u h
 rw [lgA (lgS.1 this).1];exact this
theorem q_d{j:Nat}{q:Qd}(h:l[j]?=some q):(a::b::c::(TT l++X))[6*j+8]?=some (.glob q.rd (mpK q.ds)):=by
 show (TT l++X)[6*j+5]?=_
 have:=TT_d h
 rw [lgA (lgS.1 this).1];exact this
theorem q_su{j:Nat}{q:Qd}(h:l[j]?=some q) (ks:List Int):(a::b::c::(TT l++X)).set (6*j+7) (.glob q.ru (mpK ks))=a::b::c::(TT (l.set j { q with ks:=ks})++X):=by
 show a::b::c::(TT l++X).set (6*j+4) _=_
 rw [List.set_append_left _ _ (lgS.1 (TT_u h)).1,TT_set ks h]
end
theorem SolJ.set{f:Func}{l:List Qd}(h:SolJ f l){j:Nat}{q:Qd}{b:Block}(hq:l[j]?=some q) (hb:f.blocks[j]?=some b) {ks:List Int} (hnd:ks.Nodup) (hsub:∀ v∈q.ks,v∈ks)
  (hnew:∀ v∈ks,v∈q.ks∨(Exits (l.map fun q=>q.ks) (succsZ b.term) v∧v∉q.ds)):SolJ f (l.set j { q with ks:=ks}):=by
 refine ⟨by rw [List.length_set];exact h.len,fun i q' b' hi hb'=>?_⟩
 by_cases hij:j=i
 ·subst hij
  rw [List.getElem?_set_self (lgS.1 hq).1] at hi
  injection hi with hi;subst hi
  rw [hb] at hb';injection hb' with hb';subst hb'
  obtain ⟨k1,k2,k3,k4⟩:=h.at_ j q b hq hb
  refine ⟨hnd,fun v hv=>?_,fun v hv=>hsub v (k3 v hv),k4⟩
  rcases hnew v hv with h1 | ⟨⟨t,ht,lt,h2,h3⟩,h4⟩
  ·exact k2 v h1
  ·rw [lgM,omS] at h2
   obtain ⟨q2,h5,rfl⟩:=h2
   have htl:=(lgS.1 h5).1
   obtain ⟨b2,hb2⟩:∃ b2,f.blocks[t.toNat]?=some b2:=⟨_,lgE (by rw [←h.len];exact htl)⟩
   refine .next j b t hb ht ((h.at_ _ q2 b2 h5 hb2).2.1 v h3) ?_
   have:=(Jt17l b).1 v
   rw [k4] at h4
   simpa using fun h6=>h4 (this.2 h6)
 ·rw [List.getElem?_set_ne hij] at hi
  exact h.at_ i q' b' hi hb'
section
variable {P:Program} {p:Nums}
set_option maxHeartbeats 4000000 in
theorem Jtpk(A:All P p)(f:Func)(ok:OkL f):Jt51 P p.Yfs [f.av] [] fun o H'=>∃ l:List Qd,(SolJ f l∧∀ j,j<f.blocks.length→Jt52 f l j)∧o=.ret (.hsl 1 0 1 f.blocks.length)∧H'=[.dead,.mem ((ruL l).map .mp),.dead]++TT l:=by
 refine A.Yfs.run rfl fun R hR=>?_
 have hbl:=ok.bl
 obtain ⟨fR,hfR⟩:∃ x,x=f.blocks.map Block.row:=⟨_,rfl⟩
 have lR:fR.length=f.blocks.length:=by rw [hfR];simp
 have gR:∀ (j:Nat) (b:Block),f.blocks[j]?=some b→fR[j]?=some b.row:=fun j b h=>by rw [hfR,lgM,h];rfl
 obtain ⟨n,hn⟩:∃ n,n=f.blocks.length:=⟨_,rfl⟩
 rw [←hn] at lR hbl hR
 have av:f.av=.agg [AI f.args,AI f.regs,.d (.sl fR)]:=by rw [hfR];rfl
 rw [av]
 (simp (maxSteps:=9^6)[Jtim,lR])
 refine Jt2q (n:=n) (by rfl) (by rfl) (by omega) (by omega) (by decide) (by rfl) (by rfl) (by rfl) ?_
 rw [Jtal]
 (simp (maxSteps:=9^6)[lR])
 refine Jt2q (n:=n) (by rfl) (by rfl) (by omega) (by omega) (by decide) (by rfl) (by rfl) (by rfl) ?_
 rw [Jtal]
 (simp (maxSteps:=9^6)[lR])
 refine Jtf (fun l:List Qd=>⟨[(21,AI (l.length:Int)),(20,AI (n:Int)),(19,.d (.sl fR)),(4,.hsl 2 0 1 n),(3,.hsl 1 0 1 n),(1,.ptr 0 0)],
  .mem [AI f.args,AI f.regs,.d (.sl fR)]::.mem (cellsM (ruL l) n)::.mem (cellsM (rdL l) n)::TT l⟩)
  (fun l=>l.length≤n∧∀ (j:Nat) (q:Qd) (b:Block),l[j]?=some q→f.blocks[j]?=some b→q.ks=(scanZ b).1∧q.ds=(scanZ b).2) (fun l=>n-l.length) [] ⟨by simp,fun j q b h=>by simp at h⟩ ?_ ?_
 ·refine Wk.of ?_ ?_ (by simp)<;>repeat' (first|exact Jtai.wk | (first|exact True.intro|exact ⟨_,rfl,Jt1l6 rfl⟩ | exact ⟨_,rfl,Jt1l4 rfl⟩ | exact ⟨_,rfl,.inl .nild⟩ | exact ⟨_,rfl,.inl .nile⟩ | exact ⟨_,rfl,Jt1l5⟩ | exact Jt1l6 rfl|exact Jt1l4 rfl|exact .inl .nild|exact .inl .nile|exact Jt1l5|exact WkB.same rfl|exact Jt5o|exact Jt5n|exact .dead _|exact .iter _ _|exact .glob _ _|refine Jt5k ?_ ?_|refine And.intro ?_ ?_))
 rintro l ⟨i1,i2⟩ N hN
 (simp (maxSteps:=9^6)[])
 by_cases h2:l.length<n
 ·have h2i:(l.length:Int)<(n:Int):=by omega
  obtain ⟨b,hb⟩:∃ b,f.blocks[l.length]?=some b:=⟨_,lgE (by omega)⟩
  have hr:=gR _ _ hb
  have hcl:=ok.cl b (lmG hb)
  have hsc:=Jtov A b (by omega)
  obtain ⟨⟨us,ds⟩,hus⟩:∃ x,x=scanZ b:=⟨_,rfl⟩
  rw [←hus] at hsc
  obtain ⟨code,kind,ta,to,els⟩:=b
  simp only [Block.av,Block.row] at hr hsc
  have c1:=Jtak (rs:=ruL l) (n:=n) (by simp;omega)
  have c2:=Jtak (rs:=rdL l) (n:=n) (by simp;omega)
  have s1:=fun r=>Jtam (rs:=ruL l) (n:=n) (k:=l.length) (by simp) h2 r
  have s2:=fun r=>Jtam (rs:=rdL l) (n:=n) (k:=l.length) (by simp) h2 r
  have hw:=Jt1le (k:=l.length) (by omega)
  obtain ⟨C1,hC1⟩:∃ x,x=cellsM (ruL l) n:=⟨_,rfl⟩
  obtain ⟨C2,hC2⟩:∃ x,x=cellsM (rdL l) n:=⟨_,rfl⟩
  rw [←hC1] at c1 s1 ⊢
  rw [←hC2] at c2 s2 ⊢
  have h2s:l.length+1≤n:=h2
  (simp (maxSteps:=9^6)[h2,h2i,hr])
  refine Jt1a [] 5 (X:=fun r:Nat × Nat=>.tup [.mp r.1,.mp r.2]) (Y:=fun r:Nat × Nat=>.tup [.mp r.1,.mp r.2]) (C:=fun r:Nat × Nat=>[.dead,.dead,.dead,.glob r.1 (mpK us),.glob r.2 (mpK ds)]) (Hb:=fun r:Nat × Nat=>[.dead,.dead,.dead,.glob r.1 (mpK us),.glob r.2 (mpK ds)]) hsc (by decide) (by rfl) (by rfl) (by rfl) (fun _=>rfl) (fun _=>rfl) (fun _=>rfl) fun r _=>?_
  (simp (maxSteps:=9^6)[wback,h2,c1,c2,h2s])
  (simp (maxSteps:=9^6)[hw])
  rw [s1,s2]
  refine hN _ (l++[⟨r.1,r.2,us,ds⟩]) ⟨by simp;omega,fun j q b hj hb'=>?_⟩ ?_ (by simp;omega)
  ·by_cases hjl:j<l.length
   ·rw [lgA hjl] at hj
    exact i2 j q b hj hb'
   ·have hjj:j=l.length:=by
     have:=(lgS.1 hj).1
     simp at this;omega
    subst hjj
    rw [hb] at hb';injection hb' with hb';subst hb'
    simp at hj;subst hj
    rw [←hus];exact ⟨rfl,rfl⟩
  ·simp only [Jt16w,Jty4,TT_app,rowQ,List.length_append,List.length_singleton]
   refine Wk.of ?_ ?_ (by simp)<;>repeat' (first|exact Jtai.wk|exact Jt5v TT_cl ⟨.dead _,.dead _,.dead _,.dead _,.glob _ _,.glob _ _,trivial⟩ | (first|exact True.intro|exact ⟨_,rfl,Jt1l6 rfl⟩ | exact ⟨_,rfl,Jt1l4 rfl⟩ | exact ⟨_,rfl,.inl .nild⟩ | exact ⟨_,rfl,.inl .nile⟩ | exact ⟨_,rfl,Jt1l5⟩ | exact Jt1l6 rfl|exact Jt1l4 rfl|exact .inl .nild|exact .inl .nile|exact Jt1l5|exact WkB.same rfl|exact Jt5o|exact Jt5n|exact .dead _|exact .iter _ _|exact .glob _ _|refine Jt5k ?_ ?_|refine And.intro ?_ ?_))
 ·have el:l.length=n:=by omega
  have e1:cellsM (ruL l) n=(ruL l).map .mp:=Jtaj (by rw [Jt16y];exact el)
  have e2:cellsM (rdL l) n=(rdL l).map .mp:=Jtaj (by rw [Jty6];exact el)
  rw [e1,e2]
  (simp (maxSteps:=9^6)[h2,el])
  have hJ:SolJ f l:=⟨by omega,fun j q b hj hb=>by
   obtain ⟨k1,k2⟩:=i2 j q b hj hb
   obtain ⟨z1,z2,z3,z4,_,_⟩:=Jt17l b
   rw [k1]
   exact ⟨z3,fun v hv=>.use j b hb ((z2 v).1 hv),fun v hv=>(z2 v).2 hv,k2⟩⟩
  refine Jtf (fun l:List Qd=>⟨[(4,.hsl 2 0 1 n),(3,.hsl 1 0 1 n),(1,.ptr 0 0)],.mem [AI f.args,AI f.regs,.d (.sl fR)]::.mem ((ruL l).map .mp)::.mem ((rdL l).map .mp)::TT l⟩)
   (fun l=>SolJ f l) (fun l=>n*(regsL f).length-sumQ l) l hJ ?_ ?_
  ·refine Wk.of ?_ ?_ (by simp)<;>repeat' (first|exact (ClB.mps _).wk|exact Jt5q | (first|exact True.intro|exact ⟨_,rfl,Jt1l6 rfl⟩ | exact ⟨_,rfl,Jt1l4 rfl⟩ | exact ⟨_,rfl,.inl .nild⟩ | exact ⟨_,rfl,.inl .nile⟩ | exact ⟨_,rfl,Jt1l5⟩ | exact Jt1l6 rfl|exact Jt1l4 rfl|exact .inl .nild|exact .inl .nile|exact Jt1l5|exact WkB.same rfl|exact Jt5o|exact Jt5n|exact .dead _|exact .iter _ _|exact .glob _ _|refine Jt5k ?_ ?_|refine And.intro ?_ ?_))
  clear N hN hJ e1 e2 i1 i2 h2 el
  intro l hJ N hN
  have el:l.length=n:=by rw [hn];exact hJ.len
  have hw1:IntKind.i64.wrap ((n:Int)-1)=(n:Int)-1:=wrap_i64 (by omega) (by omega)
  (simp (maxSteps:=9^6)[lR,hw1])
  refine Jtf (fun m:Nat=>⟨[(7,AI ((m:Int)-1)),(4,.hsl 2 0 1 n),(3,.hsl 1 0 1 n),(1,.ptr 0 0)],.mem [AI f.args,AI f.regs,.d (.sl fR)]::.mem ((ruL l).map .mp)::.mem ((rdL l).map .mp)::TT l⟩)
   (fun m=>m≤n∧∀ j,m≤j→j<n→Jt52 f l j) (fun m=>m) n ⟨Nat.le_refl _,fun j h1 h2=>by omega⟩ ?_ ?_
  ·refine Wk.of ?_ ?_ (by simp)<;>repeat' (first|exact (ClB.mps _).wk|exact Jt5q | (first|exact True.intro|exact ⟨_,rfl,Jt1l6 rfl⟩ | exact ⟨_,rfl,Jt1l4 rfl⟩ | exact ⟨_,rfl,.inl .nild⟩ | exact ⟨_,rfl,.inl .nile⟩ | exact ⟨_,rfl,Jt1l5⟩ | exact Jt1l6 rfl|exact Jt1l4 rfl|exact .inl .nild|exact .inl .nile|exact Jt1l5|exact WkB.same rfl|exact Jt5o|exact Jt5n|exact .dead _|exact .iter _ _|exact .glob _ _|refine Jt5k ?_ ?_|refine And.intro ?_ ?_))
  rintro m ⟨m1,m2⟩ M hM
  cases m with
  | zero=>
   have e0:((0:Nat):Int)-1 = -1:=rfl
   simp only [e0]
   (simp (maxSteps:=9^6)[])
   refine hR _ _ (Jt58 (.hsl 1 0 1 n) (.hsl 1 0 1 n) ([.dead,.mem ((ruL l).map .mp),.dead]++TT l) (by rfl) ?_ ⟨l,⟨hJ,fun j hj=>m2 j (Nat.zero_le _) hj⟩,rfl,rfl⟩)
   refine Wk.of ⟨⟨_,rfl,Jt1l6 (by simp [AV.ren])⟩,trivial⟩ ⟨.dead _,(ClB.mps _).wk,.dead _,Jt5q⟩ (by simp)
  | succ j=>
   have e0:((j+1:Nat):Int)-1=(j:Int):=by omega
   have hwj:IntKind.i64.wrap ((j:Int)-1)=(j:Int)-1:=wrap_i64 (by omega) (by omega)
   simp only [e0]
   have hjn:j<n:=by omega
   obtain ⟨b,hb⟩:∃ b,f.blocks[j]?=some b:=⟨_,lgE (by omega)⟩
   obtain ⟨q,hq⟩:∃ q,l[j]?=some q:=⟨_,lgE (by omega)⟩
   obtain ⟨p1,p2,p3,p4⟩:=hJ.at_ j q b hq hb
   have hr:=gR _ _ hb
   have gu:=Jt16x hq
   have gd:=Jty5 hq
   have hTl:(TT l).length=6*n:=by rw [TT_len,el]
   have hsucc:=fun t ht=>ok.succ b (lmG hb) t ht
   have hex:=Jtof A b (.mem [AI f.args,AI f.regs,.d (.sl fR)]::.mem ((ruL l).map .mp)::.mem ((rdL l).map .mp)::TT l) 1 n (ruL l) (l.map fun q=>q.ks) ⟨rfl,by simp,fun i r ks h1 h2=>by
     rw [lgM,omS] at h2
     obtain ⟨q2,h3,rfl⟩:=h2
     rw [Jt16x h3] at h1;injection h1 with h1;subst h1
     exact ⟨6*i+7,TT_u h3⟩,fun k hk=>by
     simp only [List.mem_cons] at hk
     rcases hk with rfl | rfl | rfl | hk
     ·exact ClB.mem fun x hx ρ=>by simp only [List.mem_cons,List.not_mem_nil,or_false] at hx;rcases hx with rfl | rfl | rfl<;>rfl
     ·exact .mps _
     ·exact .mps _
     ·exact TT_cl k hk⟩ (by simp [el]) (fun t ht=>by have:=hsucc t ht;rw [Jt16y,el,hn];exact this)
   obtain ⟨code,kind,ta,to,els⟩:=b
   simp only [Block.row] at hr
   simp only [Block.av] at hex
   (simp (maxSteps:=9^6)[hjn,gu])
   refine Jt2s (b:=6*j+7) (by rfl) (TT_u hq) ?_
   (simp (maxSteps:=9^6)[hr])
   refine Jt16 (C:=fun x:Nat × List Int=>[.dead,.glob x.1 (mpK x.2)]) (X:=fun x:Nat × List Int=>.mp x.1) ?_ ?_ hex (fun _ _=>rfl) (fun x k hk=>?_) fun x hx=>?_
   ·intro k hk
    simp only [List.mem_cons] at hk
    rcases hk with rfl | rfl | rfl | hk
    ·exact ClB.mem fun x hx ρ=>by simp only [List.mem_cons,List.not_mem_nil,or_false] at hx;rcases hx with rfl | rfl | rfl<;>rfl
    ·exact .mps _
    ·exact .mps _
    ·exact TT_cl k hk
   ·simp only [renL,AV.ren,List.length_cons]
    rw [Jtl4 _ 0 1 (by omega) (by omega)]
   ·simp only [List.mem_cons,List.not_mem_nil,or_false] at hk
    rcases hk with rfl | rfl
    ·exact .dead
    ·exact .glob _ _
   obtain ⟨x1,x2⟩:=hx
   (simp (maxSteps:=9^6)[])
   refine Jt2z (b:=6*n+4) (by rfl) (q_o el) fun r'=>?_
   (simp (maxSteps:=9^6)[hTl])
   have lP:∀ {A B C D E F:Blk} {T Y:List Blk},T.length=6*n→WkT Y (A::B::C::(T++[D,E,F])).length (.ptr (6*n+5) 0) (.ptr (6*n+5) 0):=fun {A B C D E F T Y} hT=>Jt1l6 (by
    simp only [AV.ren,List.length_cons,List.length_append,List.length_nil]
    rw [if_pos (by omega)])
   have lT:∀ ks,(TT (l.set j { q with ks:=ks})).length=6*n:=fun ks=>by rw [TT_len,List.length_set,el]
   have eset:l.set j { q with ks:=q.ks}=l:=by
    apply List.ext_getElem?
    intro i
    rw [List.getElem?_set]
    split
    ·rename_i hi;subst hi;rw [hq];simp [(lgS.1 hq).1]
    ·rfl
   refine Jtf (fun z:List Nat × List Int × List Int=>⟨[(58,.ptr (6*n+5) 0),(8,AI (q.ks.length:Int)),(7,AI j),(4,.hsl 2 0 1 n),(3,.hsl 1 0 1 n),(1,.ptr 0 0)],.mem [AI f.args,AI f.regs,.d (.sl fR)]::.mem ((ruL l).map .mp)::.mem ((rdL l).map .mp)::(TT (l.set j { q with ks:=z.2.2})++[.dead,.glob x.1 (mpK x.2),.glob r' (itO x.1 x.2.length z.1)])⟩)
    (fun z=>Seen x.2 z.1 z.2.1∧z.2.2.Nodup∧(∃ e,z.2.2=q.ks++e)∧∀ v,v∈z.2.2↔v∈q.ks∨(v∈z.2.1∧v∉q.ds)) (fun z=>x.2.length-z.1.length) ([],[],q.ks) ⟨Seen.nil _,p1,⟨[],by simp⟩,fun v=>by simp⟩ ?_ ?_
   ·simp only [eset]
    refine Wk.of ?_ ?_ (by simp)<;>repeat' (first|exact (ClB.mps _).wk|exact Jt5v TT_cl ⟨.dead _,.glob _ _,.glob _ _,trivial⟩ | (first|exact True.intro|exact ⟨_,rfl,Jt1l6 rfl⟩ | exact ⟨_,rfl,Jt1l4 rfl⟩ | exact ⟨_,rfl,.inl .nild⟩ | exact ⟨_,rfl,.inl .nile⟩ | exact ⟨_,rfl,Jt1l5⟩ | exact Jt1l6 rfl|exact Jt1l4 rfl|exact .inl .nild|exact .inl .nile|exact Jt1l5|exact WkB.same rfl|exact Jt5o|exact Jt5n|exact .dead _|exact .iter _ _|exact .glob _ _|refine Jt5k ?_ ?_|refine And.intro ?_ ?_)|exact ⟨_,rfl,lP hTl⟩)
   rintro ⟨seen,cs,kz⟩ ⟨s1,s2,s3,s4⟩ N3 hN3
   simp only at s1 s2 s3 s4 hN3
   have hl':(l.set j { q with ks:=kz}).length=n:=by rw [List.length_set];exact el
   have hq':(l.set j { q with ks:=kz})[j]?=some { q with ks:=kz}:=List.getElem?_set_self (by omega)
   (simp (maxSteps:=9^6)[])
   refine Jt2v (b:=6*n+4) (bi:=6*n+5) (by rfl) (q_it hl') (q_o hl') (fun i v hk hi=>?_) (fun hall=>?_)
   ·have hs':=s1.step hk hi
    have hlen:=hs'.len
    rw [q_sit hl']
    (simp (maxSteps:=9^6)[])
    refine Jt2g (b:=6*n+4) (bi:=6*n+5) (by rfl) (q_it hl') (q_o hl') hk ?_
    (simp (maxSteps:=9^6)[hjn,gd])
    refine Jt2i (b:=6*j+8) (by rfl) (by rfl) (q_d hq') ?_
    by_cases hv:v∈q.ds
    ·(simp (maxSteps:=9^6)[hv])
     refine hN3 _ (seen++[i],cs++[v],kz) ⟨hs',s2,s3,fun w=>?_⟩ ?_ (by simp only [List.length_append,List.length_singleton] at hlen ⊢;omega)
     ·show w∈kz↔w∈q.ks∨(w∈cs++[v]∧w∉q.ds)
      rw [s4,List.mem_append,List.mem_singleton]
      constructor
      ·rintro (h | ⟨h,h'⟩)
       ·exact .inl h
       ·exact .inr ⟨.inl h,h'⟩
      ·rintro (h | ⟨h | rfl,h'⟩)
       ·exact .inl h
       ·exact .inr ⟨h,h'⟩
       ·exact absurd hv h'
     ·refine Wk.of ?_ ?_ (by simp)<;>repeat' (first|exact (ClB.mps _).wk|exact Jt5v TT_cl ⟨.dead _,.glob _ _,.glob _ _,trivial⟩ | (first|exact True.intro|exact ⟨_,rfl,Jt1l6 rfl⟩ | exact ⟨_,rfl,Jt1l4 rfl⟩ | exact ⟨_,rfl,.inl .nild⟩ | exact ⟨_,rfl,.inl .nile⟩ | exact ⟨_,rfl,Jt1l5⟩ | exact Jt1l6 rfl|exact Jt1l4 rfl|exact .inl .nild|exact .inl .nile|exact Jt1l5|exact WkB.same rfl|exact Jt5o|exact Jt5n|exact .dead _|exact .iter _ _|exact .glob _ _|refine Jt5k ?_ ?_|refine And.intro ?_ ?_)|exact ⟨_,rfl,lP (lT _)⟩)
    ·(simp (maxSteps:=9^6)[hv,hjn,gu])
     refine Jt31 (b:=6*j+7) (by rfl) (by rfl) (by rfl) (q_u hq') ?_
     rw [q_su hq']
     simp only [List.set_set]
     (simp (maxSteps:=9^6)[])
     obtain ⟨e,he⟩:=s3
     refine hN3 _ (seen++[i],cs++[v],madd kz v) ⟨hs',Jts3 s2,?_,fun w=>?_⟩ ?_ (by simp only [List.length_append,List.length_singleton] at hlen ⊢;omega)
     ·show ∃ e,madd kz v=q.ks++e
      unfold madd
      split
      ·exact ⟨e,he⟩
      ·exact ⟨e++[v],by rw [he,List.append_assoc]⟩
     ·show w∈madd kz v↔w∈q.ks∨(w∈cs++[v]∧w∉q.ds)
      rw [Jtso,s4,List.mem_append,List.mem_singleton]
      constructor
      ·rintro ((h | ⟨h,h'⟩) | rfl)
       ·exact .inl h
       ·exact .inr ⟨.inl h,h'⟩
       ·exact .inr ⟨.inr rfl,hv⟩
      ·rintro (h | ⟨h | rfl,h'⟩)
       ·exact .inl (.inl h)
       ·exact .inl (.inr ⟨h,h'⟩)
       ·exact .inr rfl
     ·refine Wk.of ?_ ?_ (by simp)<;>repeat' (first|exact (ClB.mps _).wk|exact Jt5v TT_cl ⟨.dead _,.glob _ _,.glob _ _,trivial⟩ | (first|exact True.intro|exact ⟨_,rfl,Jt1l6 rfl⟩ | exact ⟨_,rfl,Jt1l4 rfl⟩ | exact ⟨_,rfl,.inl .nild⟩ | exact ⟨_,rfl,.inl .nile⟩ | exact ⟨_,rfl,Jt1l5⟩ | exact Jt1l6 rfl|exact Jt1l4 rfl|exact .inl .nild|exact .inl .nile|exact Jt1l5|exact WkB.same rfl|exact Jt5o|exact Jt5n|exact .dead _|exact .iter _ _|exact .glob _ _|refine Jt5k ?_ ?_|refine And.intro ?_ ?_)|exact ⟨_,rfl,lP (lT _)⟩)
   ·have hp:=s1.done hall
    (simp (maxSteps:=9^6)[hjn,gu])
    refine Jt2s (b:=6*j+7) (by rfl) (q_u hq') ?_
    (simp (maxSteps:=9^6)[])
    by_cases hgt:q.ks.length<kz.length
    ·have hgi:(q.ks.length:Int)<(kz.length:Int):=by omega
     (simp (maxSteps:=9^6)[hgt,hgi])
     have hJ':=hJ.set hq hb s2 (fun v hv=>(s4 v).2 (.inl hv)) (fun v hv=>((s4 v).1 hv).imp id fun h=>⟨(x2 v).1 (hp.mem_iff.1 h.1),h.2⟩)
     have hsum:=hJ'.sum
     have hse:=Jt1e0 (fun q:Qd=>q.ks.length) (y:={ q with ks:=kz}) hq
     refine hN _ (l.set j { q with ks:=kz}) hJ' ?_ (by unfold sumQ at hsum ⊢;rw [←hn] at hsum;simp only at hse;omega)
     rw [Jt16z hq,Jty7 hq]
     refine Wk.of ?_ ?_ (by simp)<;>repeat' (first|exact (ClB.mps _).wk|exact Jt5r | (first|exact True.intro|exact ⟨_,rfl,Jt1l6 rfl⟩ | exact ⟨_,rfl,Jt1l4 rfl⟩ | exact ⟨_,rfl,.inl .nild⟩ | exact ⟨_,rfl,.inl .nile⟩ | exact ⟨_,rfl,Jt1l5⟩ | exact Jt1l6 rfl|exact Jt1l4 rfl|exact .inl .nild|exact .inl .nile|exact Jt1l5|exact WkB.same rfl|exact Jt5o|exact Jt5n|exact .dead _|exact .iter _ _|exact .glob _ _|refine Jt5k ?_ ?_|refine And.intro ?_ ?_))
    ·have hgi:¬ (q.ks.length:Int)<(kz.length:Int):=by omega
     obtain ⟨e,he⟩:=s3
     have hke:kz=q.ks:=by
      rw [he,List.length_append] at hgt
      have:e=[]:=List.eq_nil_of_length_eq_zero (by omega)
      rw [he,this,List.append_nil]
     subst hke
     rw [eset]
     (simp (maxSteps:=9^6)[hgt,hgi,hwj])
     refine hM _ j ⟨by omega,fun i hi hin=>?_⟩ ?_ (by omega)
     ·by_cases hij:i=j
      ·subst hij
       intro b' q' hb' hq2 v hE hd
       rw [hb] at hb';injection hb' with hb';subst hb'
       rw [hq] at hq2;injection hq2 with hq2;subst hq2
       exact (s4 v).2 (.inr ⟨hp.mem_iff.2 ((x2 v).2 hE),hd⟩)
      ·exact m2 i (by omega) hin
     ·refine Wk.of ?_ ?_ (by simp)<;>repeat' (first|exact (ClB.mps _).wk|exact Jt5r | (first|exact True.intro|exact ⟨_,rfl,Jt1l6 rfl⟩ | exact ⟨_,rfl,Jt1l4 rfl⟩ | exact ⟨_,rfl,.inl .nild⟩ | exact ⟨_,rfl,.inl .nile⟩ | exact ⟨_,rfl,Jt1l5⟩ | exact Jt1l6 rfl|exact Jt1l4 rfl|exact .inl .nild|exact .inl .nile|exact Jt1l5|exact WkB.same rfl|exact Jt5o|exact Jt5n|exact .dead _|exact .iter _ _|exact .glob _ _|refine Jt5k ?_ ?_|refine And.intro ?_ ?_))
end
end Go.AE
set_option maxRecDepth 8000
namespace Go.AE
open Go
theorem Jt1e{P:Program}{K:ASt→Prop}{QP:AV→ASt→Prop}{dst:Option Nat}{st:ASt}{ι:Type}{f:Nat}{args cargs:List AV}{C:ι→List Blk}{X Y:ι→AV}{Pr:ι→Prop}
  (h:Jt51 P f cargs [] fun o H'=>∃ i,Pr i∧o=.ret (X i)∧H'=C i) (ha:renL (idx []) args=some cargs) (hC:∀ i,∀ k∈C i,ClB k) (hx:∀ i,(X i).ren (back [] st.H.length (C i).length)=some (Y i))
  (hK:∀ i,Pr i→K (put dst (Y i) ⟨unview st.env,st.H++C i⟩)):AWcall P false f args dst K QP st:=by
 refine .inr ⟨rfl,.inr ⟨[],List.nodup_nil,cargs,[],[],ha,rfl,rfl,h.mono ?_⟩⟩
 rintro o H' ⟨i,hi,rfl,rfl⟩
 refine ⟨(C i).length,C i,Y i,?_,by simp,hx i,?_⟩
 ·simp only [List.length_nil,Nat.zero_add,List.take_length]
  exact Jt15e (hC i) _
 ·exact hK i hi
open Classical in
noncomputable def liveS(f:Func)(j:Nat):List Int:=((List.range f.regs.toNat).map fun v:Nat=>(v:Int)).filter fun v=>@decide (LiveAt f v j) (propDecidable _)
open Classical in
noncomputable def liveIn(f:Func):List (List Int):=(List.range f.blocks.length).map (liveS f)
structure OkV (f:Func):Prop where
 l:OkL f
 regs:∀ v j,LiveAt f v j→0≤v∧v<f.regs
theorem mem_rg{n v:Int}:v∈((List.range n.toNat).map fun v:Nat=>(v:Int))↔0≤v∧v<n:=by
 simp only [List.mem_map,List.mem_range]
 constructor
 ·rintro ⟨k,h,rfl⟩;omega
 ·rintro ⟨h0,h1⟩;exact ⟨v.toNat,by omega,by omega⟩
theorem rg_lt(n:Nat):((List.range n).map fun v:Nat=>(v:Int)).Pairwise fun a b=>a<b:=by
 rw [List.pairwise_map]
 exact List.pairwise_lt_range.imp fun h=>by omega
theorem Jtsn{f:Func}(ok:OkV f){v:Int}{j:Nat}:v∈liveS f j↔LiveAt f v j:=by
 unfold liveS
 rw [List.mem_filter,mem_rg]
 exact ⟨fun h=>@of_decide_eq_true _ (Classical.propDecidable _) h.2,fun h=>⟨ok.regs v j h,@decide_eq_true _ (Classical.propDecidable _) h⟩⟩
theorem Jtq7{l m:List Int}(h1:l.Nodup)(h2:m.Pairwise fun a b=>a<b)(h:∀ v,v∈l↔v∈m):sortI l=m:=by
 have hm:m.Nodup:=h2.imp fun h=>by omega
 exact Jt1ai (Jt1a8 l) (h2.imp fun h=>by omega) ((List.mergeSort_perm l _).trans ((List.perm_ext_iff_of_nodup h1 hm).2 h))
theorem Jtnv(f:Func)(j:Nat):(liveS f j).Pairwise fun a b=>a<b:=(rg_lt _).filter _
theorem Jtnu(f:Func)(j:Nat):(liveS f j).length≤f.regs.toNat:=by
 have:=List.length_filter_le (fun v=>@decide (LiveAt f v j) (Classical.propDecidable _)) ((List.range f.regs.toNat).map fun v:Nat=>(v:Int))
 unfold liveS
 simpa using this
def outI(n k q:Nat):AV:=match k with
 | 0=>.nils
 | k+1=>.hsl (6*n+4+q) 0 1 (k+1)
structure OutX (L:List (List D)) (k q:Nat) (X:List Blk):Prop where
 out:0<k→X[q]?=some (.mem (Jt16d (L.take k)))
 cl:∀ b∈X,ClB b
theorem ClB.rows (rows:List (List D)):ClB (.mem (Jt16d rows)):=ClB.mem fun x hx ρ=>by
 unfold Jt16d at hx
 obtain ⟨d,_,rfl⟩:=List.mem_map.1 hx;rfl
theorem OutX.s1 {L:List (List D)} {k q:Nat} {X:List Blk} (h:OutX L (k+1) q X) {rows:List (List D)} (hr:rows=L.take (k+1+1)):OutX L (k+1+1) q (X.set q (.mem (Jt16d rows))):=by
 subst hr
 have hl:=(lgS.1 (h.out (by omega))).1
 refine ⟨fun _=>by rw [List.getElem?_set_self hl],fun b hb=>?_⟩
 rcases List.mem_or_eq_of_mem_set hb with hb | hb
 ·exact h.cl b hb
 ·rw [hb];exact .rows _
theorem OutX.s2 {L:List (List D)} {k q:Nat} {X:List Blk} (h:OutX L k q X) {Z:List Blk} (hZ:∀ b∈Z,ClB b) {rows:List (List D)} (hr:rows=L.take (k+1)):OutX L (k+1) (X++Z).length (X++Z++[.mem (Jt16d rows)]):=by
 subst hr
 refine ⟨fun _=>by simp,fun b hb=>?_⟩
 rcases List.mem_append.1 hb with hb | hb
 ·exact (List.mem_append.1 hb).elim (h.cl b) (hZ b)
 ·rw [List.mem_singleton.1 hb];exact .rows _
theorem gX{a b c d:Blk}{T X:List Blk}{n q:Nat}(h:T.length=6*n):(a::b::c::d::(T++X))[6*n+4+q]?=X[q]?:=by
 have e:6*n+4+q=(6*n+q)+4:=by omega
 rw [e]
 show (T++X)[6*n+q]?=X[q]?
 rw [←h,List.getElem?_append_right (by omega)];congr 1;omega
theorem sX{a b c d y:Blk}{T X:List Blk}{n q:Nat}(h:T.length=6*n):(a::b::c::d::(T++X)).set (6*n+4+q) y=a::b::c::d::(T++X.set q y):=by
 have e:6*n+4+q=(6*n+q)+4:=by omega
 rw [e]
 show a::b::c::d::(T++X).set (6*n+q) y=_
 rw [←h,List.set_append_right _ _ (by omega)];congr 6;omega
theorem Jt5s{H:List Blk}{n:Nat}{T X:List Blk}(h1:∀ k∈T,ClB k)(h2:∀ k∈X,ClB k):WkHs H n (T++X) (T++X):=by
 have:=Jt5v (H:=H) (n:=n) (T:=T++X) (fun k hk=>(List.mem_append.1 hk).elim (h1 k) (h2 k)) (X:=[]) (Y:=[]) trivial
 rwa [List.append_nil] at this
section
variable {P:Program} {p:Nums}
set_option maxHeartbeats 2000000 in
theorem Jto6(A:All P p)(SI:SortIOk P p)(f:Func)(ok:OkV f)(hr0:f.regs≤10000):Jt51 P p.Yfb [f.av] [] fun o _=>o=.ret (.d (listsD (liveIn f))):=by
 refine A.Yfb.run rfl fun R hR=>?_
 have hbl:=ok.l.bl
 have hsol:=Jtpk A f ok.l
 obtain ⟨fR,hfR⟩:∃ x,x=f.blocks.map Block.row:=⟨_,rfl⟩
 obtain ⟨n,hn⟩:∃ n,n=f.blocks.length:=⟨_,rfl⟩
 obtain ⟨L,hL⟩:∃ L,L=(liveIn f).map fun x=>[intsD x]:=⟨_,rfl⟩
 have lL:L.length=n:=by rw [hL,hn];simp [liveIn]
 have gL:∀ j,j<n→L[j]?=some [intsD (liveS f j)]:=fun j hj=>by
  rw [hL,liveIn,lgM,lgM,List.getElem?_range (by omega)];rfl
 have av:f.av=.agg [AI f.args,AI f.regs,.d (.sl fR)]:=by rw [hfR];rfl
 simp only [listsD,←hL] at hR
 rw [av,←hn] at hsol
 rw [←hn] at hbl
 rw [av]
 (simp (maxSteps:=9^6)[Jtih])
 refine Jt1e (Y:=fun _=>.hsl 2 0 1 n) hsol (by rfl) (fun l k hk=>?_) (fun l=>?_) fun l hl=>?_
 ·rcases List.mem_append.1 hk with hk | hk
  ·simp only [List.mem_cons,List.not_mem_nil,or_false] at hk
   rcases hk with rfl | rfl | rfl
   ·exact .dead
   ·exact .mps _
   ·exact .dead
  ·exact TT_cl k hk
 ·simp [AV.ren,back]
 obtain ⟨hJ,hC⟩:=hl
 have el:l.length=n:=by rw [hn];exact hJ.len
 (simp (maxSteps:=9^6)[])
 have hTl:(TT l).length=6*n:=by rw [TT_len,el]
 refine Jtf (fun z:Nat × Nat × List Blk=>⟨[(9,AI z.1),(8,AI (n:Int)),(7,.hsl 2 0 1 n),(3,outI n z.1 z.2.1)],.dead::.dead::.mem ((ruL l).map .mp)::.dead::(TT l++z.2.2)⟩)
  (fun z=>z.1≤n∧OutX L z.1 z.2.1 z.2.2) (fun z=>n-z.1) (0,0,[]) ⟨Nat.zero_le _,fun h=>absurd h (by simp),fun b hb=>by simp at hb⟩ ?_ ?_
 ·simp only [outI,List.append_nil]
  refine Wk.of ?_ ?_ (by simp)<;>repeat' (first|exact (ClB.mps _).wk|exact Jt5q | (first|exact True.intro|exact ⟨_,rfl,Jt1l6 rfl⟩ | exact ⟨_,rfl,Jt1l4 rfl⟩ | exact ⟨_,rfl,.inl .nild⟩ | exact ⟨_,rfl,.inl .nile⟩ | exact ⟨_,rfl,Jt1l5⟩ | exact Jt1l6 rfl|exact Jt1l4 rfl|exact .inl .nild|exact .inl .nile|exact Jt1l5|exact WkB.same rfl|exact Jt5o|exact Jt5n|exact .dead _|exact .iter _ _|exact .glob _ _|refine Jt5k ?_ ?_|refine And.intro ?_ ?_))
 rintro ⟨k,qx,X⟩ ⟨hk,hX⟩ N hN
 simp only at hk hX hN
 (simp (maxSteps:=9^6)[])
 by_cases h2:k<n
 ·have h2i:(k:Int)<(n:Int):=by omega
  have hw:=Jt1le (k:=k) (by omega)
  obtain ⟨q,hq⟩:∃ q,l[k]?=some q:=⟨_,lgE (by omega)⟩
  obtain ⟨b,hb⟩:∃ b,f.blocks[k]?=some b:=⟨_,lgE (by omega)⟩
  have gu:=Jt16x hq
  obtain ⟨p1,_,_,_⟩:=hJ.at_ k q b hq hb
  have hmem:∀ v,v∈q.ks↔LiveAt f v k:=fun v=>hJ.done (fun j hj=>hC j (by omega)) hq v
  have e1:sortI q.ks=liveS f k:=Jtq7 p1 (Jtnv f k) fun v=>by rw [hmem,Jtsn ok]
  have hks:q.ks.length≤1000000:=by
   have h1:=congrArg List.length e1
   rw [Jt1a6] at h1
   have:=Jtnu f k
   omega
  have hso:=Jtp0 A SI q.ru q.ks hks
  rw [e1] at hso
  have gl:=gL k h2
  obtain ⟨D0,hD0⟩:∃ x,x=intsD (liveS f k):=⟨_,rfl⟩
  rw [←hD0] at hso gl
  have eT:L.take k++[[D0]]=L.take (k+1):=by rw [List.take_add_one,gl];rfl
  have hp:picks (Blk.dead::.dead::.mem ((ruL l).map .mp)::.dead::(TT l++X)) [6*k+8]=some [.glob q.ru (mpK q.ks)]:=by
   have h3:(Blk.dead::Blk.dead::Blk.mem ((ruL l).map .mp)::Blk.dead::(TT l++X))[6*k+8]?=some (.glob q.ru (mpK q.ks)):=by
    show (TT l++X)[6*k+4]?=_
    rw [lgA (lgS.1 (TT_u hq)).1];exact TT_u hq
   simp only [picks];rw [h3]
  have leaf:∀ {Y:List Blk} {q2:Nat} {X2:List Blk},OutX L (k+1) q2 X2→WkT Y (Blk.dead::.dead::.mem ((ruL l).map .mp)::.dead::(TT l++X2)).length (.hsl (6*n+4+q2) 0 1 (k+1)) (.hsl (6*n+4+q2) 0 1 (k+1))∧WkT Y (Blk.dead::.dead::.mem ((ruL l).map .mp)::.dead::(TT l++X2)).length (.hsl 2 0 1 n) (.hsl 2 0 1 n):=by
   intro Y q2 X2 h
   have:=(lgS.1 (h.out (by omega))).1
   refine ⟨Jt1l6 ?_,Jt1l6 ?_⟩<;>simp only [AV.ren,List.length_cons,List.length_append,hTl]<;>rw [if_pos (by omega)]
  cases k with
  | zero=>
   simp only [outI]
   (simp (maxSteps:=9^6)[h2,gu])
   refine Jt19 [6*0+8] hso (by simp) (by rfl) hp (by rfl) (by rfl) (by rfl) (by rfl) ?_
   rw [Jt1g3 _ _ _ hp]
   (simp (maxSteps:=9^6)[])
   refine Jt1l (ys:=[[D0]]) (.inr (by rfl)) (by rfl) (by simp) (by decide) (by simp) (by simp) (by simp) ?_
   have h3:=hX.s2 (Z:=[]) (by simp) (rows:=[[D0]]) (by simpa using eT)
   simp only [List.append_nil] at h3
   have hw1:IntKind.i64.wrap 1=1:=by rw [wrap_i64 (by decide) (by decide)]
   have eI:6*n+X.length+1+1+1+1=6*n+4+X.length:=by omega
   (simp (maxSteps:=9^6)[hTl,hw1])
   simp only [eI]
   refine hN _ (0+1,X.length,X++[.mem (Jt16d [[D0]])]) ⟨h2,h3⟩ ?_ (by simp only;omega)
   simp only [outI]
   refine Wk.of ?_ ?_ (by simp)<;>repeat' (first|exact (ClB.mps _).wk|exact Jt5s TT_cl h3.cl | (first|exact True.intro|exact ⟨_,rfl,Jt1l6 rfl⟩ | exact ⟨_,rfl,Jt1l4 rfl⟩ | exact ⟨_,rfl,.inl .nild⟩ | exact ⟨_,rfl,.inl .nile⟩ | exact ⟨_,rfl,Jt1l5⟩ | exact Jt1l6 rfl|exact Jt1l4 rfl|exact .inl .nild|exact .inl .nile|exact Jt1l5|exact WkB.same rfl|exact Jt5o|exact Jt5n|exact .dead _|exact .iter _ _|exact .glob _ _|refine Jt5k ?_ ?_|refine And.intro ?_ ?_)|exact ⟨_,rfl,(leaf h3).1⟩ | exact ⟨_,rfl,(leaf h3).2⟩)
  | succ k=>
   have hw2:IntKind.i64.wrap ((k:Int)+1+1)=(k:Int)+1+1:=wrap_i64 (by omega) (by omega)
   have h2j:(k:Int)+1<(n:Int):=by omega
   have h2z:(0:Int)≤(k:Int)+1:=by omega
   simp only [outI]
   (simp (maxSteps:=9^6)[h2,h2i,h2j,h2z,gu])
   refine Jt19 [6*(k+1)+8] hso (by simp) (by rfl) hp (by rfl) (by rfl) (by rfl) (by rfl) ?_
   rw [Jt1g3 _ _ _ hp]
   (simp (maxSteps:=9^6)[])
   refine Jt1m (b:=6*n+4+qx) (rows:=L.take (k+1)) (ys:=[[D0]]) (by rfl) ((gX hTl).trans (hX.out (by omega))) (by rw [List.length_take];omega) ?_ (by omega) (by rfl) (by simp) (by decide) (by simp) (by simp;omega) (by simp;omega) ?_ ?_
   ·intro r hr
    have:=List.mem_of_mem_take hr
    rw [hL] at this
    obtain ⟨x,_,rfl⟩:=List.mem_map.1 this;rfl
   ·have h3:=hX.s1 eT
    simp only [sX hTl]
    obtain ⟨Y,hY⟩:∃ Y,Y=X.set qx (.mem (Jt16d (L.take (k+1)++[[D0]]))):=⟨_,rfl⟩
    rw [←hY] at h3 ⊢
    (simp (maxSteps:=9^6)[hw2])
    refine hN _ (k+1+1,qx,Y) ⟨h2,h3⟩ ?_ (by simp only;omega)
    simp only [outI]
    refine Wk.of ?_ ?_ (by simp)<;>repeat' (first|exact (ClB.mps _).wk|exact Jt5s TT_cl h3.cl | (first|exact True.intro|exact ⟨_,rfl,Jt1l6 rfl⟩ | exact ⟨_,rfl,Jt1l4 rfl⟩ | exact ⟨_,rfl,.inl .nild⟩ | exact ⟨_,rfl,.inl .nile⟩ | exact ⟨_,rfl,Jt1l5⟩ | exact Jt1l6 rfl|exact Jt1l4 rfl|exact .inl .nild|exact .inl .nile|exact Jt1l5|exact WkB.same rfl|exact Jt5o|exact Jt5n|exact .dead _|exact .iter _ _|exact .glob _ _|refine Jt5k ?_ ?_|refine And.intro ?_ ?_)|exact ⟨_,rfl,(leaf h3).1⟩ | exact ⟨_,rfl,(leaf h3).2⟩)
   ·have h3:=hX.s2 (Z:=[]) (by simp) eT
    simp only [List.append_nil] at h3
    obtain ⟨Y,hY⟩:∃ Y,Y=X++[.mem (Jt16d (L.take (k+1)++[[D0]]))]:=⟨_,rfl⟩
    rw [←hY] at h3
    simp only [List.cons_append,List.append_assoc,←hY,List.length_cons,List.length_append,hTl]
    have eI:6*n+X.length+1+1+1+1=6*n+4+X.length:=by omega
    (simp (maxSteps:=9^6)[hw2])
    simp only [eI]
    refine hN _ (k+1+1,X.length,Y) ⟨h2,h3⟩ ?_ (by simp only;omega)
    simp only [outI]
    refine Wk.of ?_ ?_ (by simp)<;>repeat' (first|exact (ClB.mps _).wk|exact Jt5s TT_cl h3.cl | (first|exact True.intro|exact ⟨_,rfl,Jt1l6 rfl⟩ | exact ⟨_,rfl,Jt1l4 rfl⟩ | exact ⟨_,rfl,.inl .nild⟩ | exact ⟨_,rfl,.inl .nile⟩ | exact ⟨_,rfl,Jt1l5⟩ | exact Jt1l6 rfl|exact Jt1l4 rfl|exact .inl .nild|exact .inl .nile|exact Jt1l5|exact WkB.same rfl|exact Jt5o|exact Jt5n|exact .dead _|exact .iter _ _|exact .glob _ _|refine Jt5k ?_ ?_|refine And.intro ?_ ?_)|exact ⟨_,rfl,(leaf h3).1⟩ | exact ⟨_,rfl,(leaf h3).2⟩)
 ·have ek:k=n:=by omega
  subst ek
  cases k with
  | zero=>
   have:L=[]:=List.eq_nil_of_length_eq_zero lL
   subst this
   simp only [outI]
   (simp (maxSteps:=9^6)[h2])
   exact hR _ _ (Jt59 _ (.d (.sl [])) rfl (by (exact wkvA)) rfl)
  | succ k=>
   simp only [outI]
   have eT:L.take (k+1)=L:=List.take_of_length_le (by omega)
   have ho:=hX.out (by omega)
   rw [eT] at ho
   (simp (maxSteps:=9^6)[h2])
   refine hR _ _ (Jt58 (.hsl (6*(k+1)+4+qx) 0 1 (k+1)) (.d (.sl L)) [] (by rfl) ?_ rfl)
   refine Wk.of ⟨⟨_,rfl,Jt61 ((gX hTl).trans ho) (Nat.zero_le _) lL ?_⟩,trivial⟩ trivial (by simp)
   intro r hr
   rw [hL] at hr
   obtain ⟨x,_,rfl⟩:=List.mem_map.1 hr;rfl
end
end Go.AE
set_option maxRecDepth 8000
namespace Go.AE
open Go
section
variable {P:Program} {p:Nums}
end
end Go.AE
set_option maxRecDepth 8000
namespace Go.AE
open Go
section
variable {P:Program} {p:Nums}
end
end Go.AE
set_option maxRecDepth 8000
namespace Go.AE
open Go
theorem Jt1fl{i:Instr}{v regs:Int}(h:Jt14t i regs=0)(hu:useI i v=true):0≤v∧v<regs:=by
 unfold Jt14t at h
 split at h
 ·cases h
 split at h
 ·cases h
 rename_i h9
 simp only [bad9,Bool.or_eq_true,Bool.and_eq_true,not_or,not_and,Bool.not_eq_true',Bool.not_eq_false,inZ,decide_eq_true_eq] at h9
 simp only [useI,Bool.or_eq_true,Bool.and_eq_true,beq_iff_eq] at hu
 rcases hu with ⟨h1,h2⟩ | ⟨h1,h2⟩
 ·have:=h9.1.2 h1;omega
 ·have:=h9.2 h1;omega
theorem Jt1fr{b:Block}{v regs blocks:Int}(h1:∀ i∈b.code,Jt14t i regs=0)(h2:Jt14z b.term regs blocks=0)(hu:usedZ b v=true):0≤v∧v<regs:=by
 unfold usedZ at hu
 rw [Bool.or_eq_true] at hu
 rcases hu with hu | hu
 ·unfold usedC at hu
  rw [List.any_eq_true] at hu
  obtain ⟨j,hj,hu⟩:=hu
  cases hc:b.code[j]? with
  | none=>rw [hc] at hu;simp at hu
  | some i=>
   rw [hc] at hu
   simp only [Bool.and_eq_true] at hu
   exact Jt1fl (h1 i (lmG hc)) hu.1
 ·simp only [Bool.and_eq_true,bne_iff_ne,ne_eq,beq_iff_eq] at hu
  obtain ⟨⟨hk,ha⟩,_⟩:=hu
  unfold Jt14z at h2
  rw [if_neg hk] at h2
  split at h2
  ·split at h2
   ·cases h2
   ·rename_i h3;simp only [inZ,Bool.not_eq_false,Bool.and_eq_true,decide_eq_true_eq] at h3;omega
  ·split at h2
   ·split at h2
    ·cases h2
    ·rename_i h3;simp only [inZ,Bool.not_eq_false,Bool.and_eq_true,decide_eq_true_eq] at h3;omega
   ·cases h2
theorem Jt1dy{t:Term}{regs blocks x:Int}(h:Jt14z t regs blocks=0)(hx:x∈succsZ t):0≤x∧x<blocks:=by
 unfold Jt14z at h
 unfold succsZ at hx
 split at hx
 ·rename_i h1
  rw [if_pos h1] at h
  split at h
  ·cases h
  ·rename_i h3
   simp only [inZ,Bool.not_eq_false,Bool.and_eq_true,decide_eq_true_eq] at h3
   simp at hx;omega
 ·rename_i h1
  rw [if_neg h1] at h
  split at hx
  ·rename_i h2
   rw [if_pos h2] at h
   split at h
   ·cases h
   ·split at h
    ·cases h
    ·rename_i h3
     simp only [inZ,Bool.not_eq_false,Bool.and_eq_true,decide_eq_true_eq,not_or] at h3
     simp at hx;omega
  ·simp at hx
theorem okV_of{f:Func}(hf:few f=true)(hc:Jt14r f=0):OkV f:=by
 obtain ⟨f1,f2,f3,f4⟩:=Jtfs.1 hf
 obtain ⟨s1,s2,s3,s4⟩:=src_ok hc
 refine ⟨⟨fun b hb t ht=>Jt1dy (s4 b hb).2 ht,by omega,fun b hb=>by have:=f3 b hb;omega⟩,fun v j hl=>?_⟩
 exact LiveAt.closed (S:=fun _=>0≤v∧v<f.regs) (fun i b hb hu=>Jt1fr (s4 b (lmG hb)).1 (s4 b (lmG hb)).2 hu) (fun i b t hb ht h _=>h) hl
section
variable {P:Program} {p:Nums}
end
end Go.AE
set_option linter.unusedSectionVars false
set_option maxRecDepth 8000
namespace Go.AE
open Go
theorem gI_eq(l:List Int)(n:Int):gI l n=(l[n.toNat]?).getD 0:=by simp [gI]
def defI(i:Instr)(v:Int):Prop:=usesD i.op=true∧i.d=v
def PtL(f:Func)(b:Block)(v:Int)(k:Nat):Prop:=
 (∃ (j:Nat) (i:Instr),k≤j∧b.code[j]?=some i∧useI i v=true∧∀ (l:Nat) (i':Instr),k≤l→l<j→b.code[l]?=some i'→¬ defI i' v)∨
 ((∀ (l:Nat) (i':Instr),k≤l→b.code[l]?=some i'→¬ defI i' v)∧((b.term.kind≠1∧b.term.a=v)∨∃ t∈succsZ b.term,LiveAt f v t.toNat))
theorem Jtd4{b:Block}{v:Int}{k:Nat}(h:∀ (l:Nat) (i':Instr),l<k→b.code[l]?=some i'→¬ defI i' v):defAt b v k=false:=by
 rw [←Bool.not_eq_true,defAt,List.any_eq_true]
 rintro ⟨i,hi,hd⟩
 obtain ⟨l,hl,he⟩:=List.mem_iff_getElem.1 hi
 simp only [List.length_take] at hl
 have h1:(b.code.take k)[l]?=some i:=by rw [lgE (by simpa using hl),he]
 rw [List.getElem?_take] at h1
 split at h1
 ·rename_i hlk
  refine h l i hlk h1 ?_
  simp only [Bool.and_eq_true,beq_iff_eq] at hd
  exact hd
 ·cases h1
theorem PtL.entry{f:Func}{b:Block}{v:Int}{i:Nat}(hb:f.blocks[i]?=some b) (h:PtL f b v 0):LiveAt f v i:=by
 rcases h with ⟨j,x,_,hx,hu,hn⟩ | ⟨hn,h⟩
 ·refine .use i b hb ?_
  unfold usedZ usedC
  rw [Bool.or_eq_true];left
  rw [List.any_eq_true]
  refine ⟨j,List.mem_range.2 (lgS.1 hx).1,?_⟩
  rw [hx]
  simp only [hu,Bool.true_and]
  rw [Jtd4 fun l i' hl=>hn l i' (Nat.zero_le _) hl];rfl
 ·have hd:=Jtd4 (b:=b) (v:=v) (k:=b.code.length) fun l i' _=>hn l i' (Nat.zero_le _)
  rcases h with ⟨h1,h2⟩ | ⟨t,ht,hl⟩
  ·refine .use i b hb ?_
   unfold usedZ
   rw [hd]
   simp [h1,h2]
  ·exact .next i b t hb ht hl hd
theorem PtL.use{f:Func}{b:Block}{v:Int}{k:Nat}{i:Instr}(hi:b.code[k]?=some i) (hu:useI i v=true):PtL f b v k:=
 .inl ⟨k,i,Nat.le_refl _,hi,hu,fun l i' h1 h2=>by omega⟩
theorem PtL.prev{f:Func}{b:Block}{v:Int}{k:Nat}{i:Instr}(hi:b.code[k]?=some i) (hd:¬ defI i v) (h:PtL f b v (k+1)):PtL f b v k:=by
 rcases h with ⟨j,x,hj,hx,hu,hn⟩ | ⟨hn,h⟩
 ·refine .inl ⟨j,x,by omega,hx,hu,fun l i' h1 h2 h3=>?_⟩
  by_cases hl:l=k
  ·subst hl;rw [hi] at h3;cases h3;exact hd
  ·exact hn l i' (by omega) h2 h3
 ·refine .inr ⟨fun l i' h1 h3=>?_,h⟩
  by_cases hl:l=k
  ·subst hl;rw [hi] at h3;cases h3;exact hd
  ·exact hn l i' (by omega) h3
theorem PtL.term{f:Func}{b:Block}(h:b.term.kind≠1):PtL f b b.term.a b.code.length:=
 .inr ⟨fun l i' h1 h3=>by have:=(lgS.1 h3).1;omega,.inl ⟨h,rfl⟩⟩
theorem PtL.out{f:Func}{b:Block}{v t:Int}(ht:t∈succsZ b.term)(h:LiveAt f v t.toNat):PtL f b v b.code.length:=
 .inr ⟨fun l i' h1 h3=>by have:=(lgS.1 h3).1;omega,.inr ⟨t,ht,h⟩⟩
structure Ag (f:Func) (r s:RunZ):Prop where
 state:r.state=s.state
 block:r.block=s.block
 at_:r.at_=s.at_
 value:r.value=s.value
 steps:r.steps=s.steps
 trace:r.trace=s.trace
 len:r.regs.length=s.regs.length
 regs:r.state=0→∀ b,f.blocks[r.block]?=some b→∀ v:Int,PtL f b v r.at_→gI r.regs v=gI s.regs v
structure OkN (f:Func) (nr:Nat) (r:RunZ):Prop where
 len:r.regs.length=nr
 pos:r.state=0→∃ b,f.blocks[r.block]?=some b∧r.at_≤b.code.length
structure OkP (f:Func) (nr:Nat):Prop where
 pos:0<nr
 src:∀ b∈f.blocks,(∀ i∈b.code,Jt14t i (nr:Int)=0)∧Jt14z b.term (nr:Int) f.blocks.length=0
theorem Ag.step{f:Func}{nr:Nat}(hp:OkP f nr){r s:RunZ}(h:Ag f r s)(ok:OkN f nr r):Ag f (stepZ f r) (stepZ f s):=by
 obtain ⟨st,bl,at_,va,re,sl,tr,ss⟩:=r
 obtain ⟨st',bl',at',va',re',sl',tr',ss'⟩:=s
 obtain ⟨h1,h2,h3,h4,h5,h6,h7,h8⟩:=h
 simp only at h1 h2 h3 h4 h5 h6 h7 h8
 subst h1 h2 h3 h4 h5 h6
 unfold stepZ
 by_cases h0:st=0
 ·simp only [h0,ne_eq,not_true_eq_false,if_false]
  obtain ⟨b,hb,hat⟩:=ok.pos h0
  simp only at hb hat
  have hbm:=lmG hb
  obtain ⟨s1,s2⟩:=hp.src b hbm
  have hR:=h8 h0 b hb
  rw [hb]
  simp only
  unfold stepB
  by_cases he:at_=b.code.length
  ·simp only [he,if_true]
   subst he
   by_cases h3:b.term.kind=3
   ·simp only [h3,if_true]
    have ha:=hR _ (PtL.term (by rw [h3];decide))
    exact ⟨rfl,rfl,rfl,ha,rfl,rfl,h7,fun h=>by simp at h⟩
   ·simp only [h3,if_false]
    have hbl:(if b.term.kind=2∧gI re b.term.a=0 then b.term.els else b.term.to)=(if b.term.kind=2∧gI re' b.term.a=0 then b.term.els else b.term.to):=by
     by_cases hk:b.term.kind=2
     ·rw [hR _ (PtL.term (by rw [hk];decide))]
     ·rw [if_neg (fun h=>hk h.1),if_neg (fun h=>hk h.1)]
    rw [hbl]
    refine ⟨rfl,rfl,rfl,rfl,rfl,rfl,h7,fun _ b' hb' v hv=>?_⟩
    simp only at hb' hv ⊢
    refine hR v (PtL.out (t:=if b.term.kind=2∧gI re' b.term.a=0 then b.term.els else b.term.to) ?_ (PtL.entry hb' hv))
    unfold succsZ
    unfold Jt14z at s2
    by_cases hk1:b.term.kind=1
    ·rw [if_pos hk1,if_neg (fun h=>by rw [hk1] at h;exact absurd h.1 (by decide))];simp
    ·rw [if_neg hk1] at s2 ⊢
     by_cases hk2:b.term.kind=2
     ·rw [if_pos hk2]
      split<;>simp
     ·rw [if_neg hk2,if_neg h3] at s2;simp at s2
  ·simp only [he,if_false]
   obtain ⟨i,hi⟩:∃ i,b.code[at_]?=some i:=⟨_,lgE (by omega)⟩
   rw [hi]
   simp only
   have hv:=s1 i (lmG hi)
   have hua:∀ x:Int,usesA i.op=true→i.a=x→gI re x=gI re' x:=fun x h1 h2=>hR x (PtL.use hi (by unfold useI;simp [h1,h2]))
   have hub:∀ x:Int,usesB i.op=true→i.b=x→gI re x=gI re' x:=fun x h1 h2=>hR x (PtL.use hi (by unfold useI;simp [h1,h2]))
   by_cases h17:i.op=17
   ·simp only [h17,if_true]
    have hA:usesA i.op=true:=by rw [h17];decide
    rw [hua i.a hA rfl]
    refine ⟨rfl,rfl,rfl,rfl,rfl,rfl,h7,fun _ b' hb' v hv2=>?_⟩
    simp only at hb' hv2 ⊢
    rw [hb] at hb';cases hb'
    exact hR v (hv2.prev hi fun hd=>by have:=hd.1;rw [h17] at this;revert this;decide)
   ·simp only [h17,if_false]
    have hev:evI i re=evI i re':=by
     unfold evI
     have ea:evalZ i.op (gI re i.a) (gI re i.b) i.imm=evalZ i.op (gI re' i.a) (gI re i.b) i.imm:=by
      cases hA:usesA i.op with
      | true=>rw [hua i.a hA rfl]
      | false=>exact Jtfa hA h17
     rw [ea]
     cases hB:usesB i.op with
     | true=>rw [hub i.b hB rfl]
     | false=>exact Jtfb hB
    rw [hev]
    split
    ·refine ⟨rfl,rfl,rfl,rfl,rfl,rfl,by simp [h7],fun _ b' hb' v hv2=>?_⟩
     simp only at hb' hv2 ⊢
     rw [hb] at hb';cases hb'
     obtain ⟨_,_,d0,d1⟩:=Jtlf hv hp.pos
     have hl:re.length=nr:=ok.len
     by_cases hvd:v=i.d
     ·subst hvd
      rw [gI_eq,gI_eq,List.getElem?_set_self (by omega),List.getElem?_set_self (by omega)]
     ·by_cases hv0:0≤v
      ·have:i.d.toNat≠v.toNat:=by omega
       have h9:=hR v (hv2.prev hi fun hd=>hvd hd.2.symm)
       rw [gI_eq,gI_eq] at h9 ⊢
       rw [List.getElem?_set_ne this,List.getElem?_set_ne this];exact h9
      ·have h9:=hR v (hv2.prev hi fun hd=>hvd hd.2.symm)
       by_cases hd0:i.d.toNat=v.toNat
       ·rw [gI_eq,gI_eq,←hd0,List.getElem?_set_self (by omega),List.getElem?_set_self (by omega)]
       ·rw [gI_eq,gI_eq] at h9 ⊢
        rw [List.getElem?_set_ne hd0,List.getElem?_set_ne hd0];exact h9
    ·exact ⟨rfl,rfl,rfl,rfl,rfl,rfl,h7,fun h=>by simp at h⟩
 ·have h0':st≠0:=h0
  simp only [ne_eq,h0,not_false_eq_true,if_true]
  exact ⟨rfl,rfl,rfl,rfl,rfl,rfl,h7,fun h=>absurd h h0⟩
theorem OkN.step{f:Func}{nr:Nat}(hp:OkP f nr){r:RunZ}(ok:OkN f nr r):OkN f nr (stepZ f r):=by
 obtain ⟨st,bl,at_,va,re,sl,tr,ss⟩:=r
 obtain ⟨o1,o2⟩:=ok
 simp only at o1 o2
 unfold stepZ
 by_cases h0:st=0
 ·simp only [h0,ne_eq,not_true_eq_false,if_false]
  obtain ⟨b,hb,hat⟩:=o2 h0
  obtain ⟨s1,s2⟩:=hp.src b (lmG hb)
  rw [hb]
  simp only
  unfold stepB
  by_cases he:at_=b.code.length
  ·simp only [he,if_true]
   by_cases h3:b.term.kind=3
   ·simp only [h3,if_true]
    exact ⟨o1,fun h=>by simp at h⟩
   ·simp only [h3,if_false]
    refine ⟨o1,fun _=>?_⟩
    simp only
    have ht:∃ t,t=(if b.term.kind=2∧gI re b.term.a=0 then b.term.els else b.term.to)∧t∈succsZ b.term:=by
     refine ⟨_,rfl,?_⟩
     unfold succsZ
     unfold Jt14z at s2
     by_cases hk1:b.term.kind=1
     ·rw [if_pos hk1,if_neg (fun h=>by rw [hk1] at h;exact absurd h.1 (by decide))];simp
     ·rw [if_neg hk1] at s2 ⊢
      by_cases hk2:b.term.kind=2
      ·rw [if_pos hk2]
       split<;>simp
      ·rw [if_neg hk2,if_neg h3] at s2;simp at s2
    obtain ⟨t,ht1,ht2⟩:=ht
    rw [←ht1]
    obtain ⟨t0,t1⟩:=Jt1dy s2 ht2
    exact ⟨_,lgE (by omega),Nat.zero_le _⟩
  ·simp only [he,if_false]
   obtain ⟨i,hi⟩:∃ i,b.code[at_]?=some i:=⟨_,lgE (by omega)⟩
   rw [hi]
   simp only
   split
   ·exact ⟨o1,fun _=>⟨b,hb,by simp only;omega⟩⟩
   ·split
    ·exact ⟨by simpa using o1,fun _=>⟨b,hb,by simp only;omega⟩⟩
    ·exact ⟨o1,fun h=>by simp at h⟩
 ·simp only [ne_eq,h0,not_false_eq_true,if_true]
  exact ⟨o1,o2⟩
end Go.AE
set_option maxRecDepth 8000
namespace Go.AE
open Go
structure Lv (f:Func) (b:Block) (k:Nat) (s t:CS):Prop where
 srt:Srt t.set
 sub:∀ q∈t.set,q∈s.set
 live:∀ q∈s.set,PtL f b q.v k→q∈t.set
theorem Jt7x{most:Int}{s:CS}{l:List Pair}{at_:Int}{s':CS}(h:Jt7w most s l at_=(s',none)):s'=⟨l,s.steps,max s.largest l.length⟩∧(l.length:Int)≤most:=by
 unfold Jt7w at h
 injection h with h1 h2
 split at h2
 ·cases h2
 ·rename_i h3;exact ⟨h1.symm,by omega⟩
theorem Lv.become{f:Func}{b:Block}{k:Nat}{most:Int}{s t s':CS}{l l2:List Pair}{at_:Int}(h:Jt7w most s l at_=(s',none)) (hs:Srt l2) (h1:∀ q∈l2,q∈l) (h2:∀ q∈l,PtL f b q.v k→q∈l2) :
  ∃ t',Jt7w most t l2 at_=(t',none)∧Lv f b k s' t':=by
 obtain ⟨rfl,hl⟩:=Jt7x h
 have hlen:l2.length≤l.length:=Jtu3 (Jt1df hs) h1
 refine ⟨_,by unfold Jt7w;rw [if_neg (by omega)],⟨hs,h1,h2⟩⟩
theorem Lv.copies{f:Func}{b:Block}{most at_:Int}:∀ {l:List Instr} {k:Nat} {s s' t:CS},(∀ (j:Nat) (i:Instr),l[j]?=some i→b.code[k+j]?=some i∧i.op=2)→copyC most at_ l s=(s',none)→Lv f b k s t→
  ∃ t',copyC most at_ l t=(t',none)∧Lv f b (k+l.length) s' t':=by
 intro l
 induction l with
 | nil=>
  intro k s s' t hl h hv
  unfold copyC at h ⊢
  injection h with h;subst h
  exact ⟨t,rfl,by simpa using hv⟩
 | cons i l ih=>
  intro k s s' t hl h hv
  unfold copyC at h ⊢
  obtain ⟨h1,h2⟩:=Jt1ed h
  obtain ⟨hi,hop⟩:=hl 0 i rfl
  rw [Nat.add_zero] at hi
  have hA:usesA i.op=true:=by rw [hop];decide
  obtain ⟨s1,hs1⟩:∃ s1,s1=(Jt7w most (costC s) (copyP s.set i.d i.a) at_).1:=⟨_,rfl⟩
  rw [←hs1] at h2
  have h3:Jt7w most (costC s) (copyP s.set i.d i.a) at_=(s1,none):=by rw [←h1,hs1]
  have key:∀ x:Int,PtL f b x (k+1)→x≠i.d→PtL f b x k:=fun x hx hne=>hx.prev hi fun hd=>hne hd.2.symm
  have ka:PtL f b i.a k:=PtL.use hi (by unfold useI;simp [hA])
  obtain ⟨t1,e1,v1⟩:=Lv.become (f:=f) (b:=b) (k:=k+1) (t:=costC t) (l2:=copyP t.set i.d i.a) h3 (Jt1d7 hv.srt) (fun q hq=>by
   rw [Jtsl] at hq ⊢
   exact hq.imp (fun h=>⟨hv.sub q h.1,h.2⟩) fun h=>⟨h.1,hv.sub _ h.2⟩) (fun q hq hp=>by
   rw [Jtsl] at hq ⊢
   rcases hq with ⟨q1,q2⟩ | ⟨q1,q2⟩
   ·left
    refine ⟨hv.live q q1 ?_,q2⟩
    by_cases hd:q.v=i.d
    ·rcases q2 with q2 | q2
     ·rw [hd,q2];exact ka
     ·exact absurd hd q2
    ·exact key _ hp hd
   ·right
    exact ⟨q1,hv.live _ q2 ka⟩)
  rw [e1,Jt1ee]
  obtain ⟨t2,e2,v2⟩:=ih (k:=k+1) (fun j x hx=>by have:=hl (j+1) x (by simpa using hx);rwa [show k+(j+1)=k+1+j by omega] at this) h2 v1
  exact ⟨t2,e2,by rw [List.length_cons,show k+(l.length+1)=k+1+l.length by omega];exact v2⟩
theorem Lv.moves{f:Func}{b:Block}{n:Nat}{most:Int}:∀ {l:List Mach} {k:Nat} {s s' t:CS},moveC most k l s=(s',none)→Lv f b n s t→∃ t',moveC most k l t=(t',none)∧Lv f b n s' t':=by
 intro l
 induction l with
 | nil=>
  intro k s s' t h hv
  unfold moveC at h ⊢
  injection h with h;subst h
  exact ⟨t,rfl,hv⟩
 | cons i l ih=>
  intro k s s' t h hv
  unfold moveC at h ⊢
  obtain ⟨h1,h2⟩:=Jt1ed h
  obtain ⟨s1,hs1⟩:∃ s1,s1=(Jt7w most (costC s) (moveP s.set i.dst i.src) k).1:=⟨_,rfl⟩
  rw [←hs1] at h2
  have h3:Jt7w most (costC s) (moveP s.set i.dst i.src) k=(s1,none):=by rw [←h1,hs1]
  obtain ⟨t1,e1,v1⟩:=Lv.become (f:=f) (b:=b) (k:=n) (t:=costC t) (l2:=moveP t.set i.dst i.src) h3 (Jt1de hv.srt) (fun q hq=>by
   rw [Jtsr] at hq ⊢
   exact hq.imp (fun h=>⟨hv.sub q h.1,h.2⟩) fun h=>⟨h.1,hv.sub _ h.2⟩) (fun q hq hp=>by
   rw [Jtsr] at hq ⊢
   exact hq.imp (fun h=>⟨hv.live q h.1 hp,h.2⟩) fun h=>⟨h.1,hv.live _ h.2 hp⟩)
  rw [e1,Jt1ee]
  exact ih h2 v1
theorem Lv.use{f:Func}{b:Block}{k:Nat}{s s' t:CS}{v x at_:Int}(h:useC s v x at_=(s',none)) (hv:Lv f b k s t) (hp:PtL f b v k):∃ t',useC t v x at_=(t',none)∧Lv f b k s' t':=by
 unfold useC at h ⊢
 injection h with h1 h2
 split at h2
 ·rename_i hm
  rw [if_pos (hv.live _ hm hp)]
  subst h1
  exact ⟨_,rfl,⟨hv.srt,hv.sub,hv.live⟩⟩
 ·cases h2
theorem Lv.instr{f:Func}{b:Block}{k:Nat}{most:Int}{i:Instr}{x:Mach}{at_:Int}{s s' t:CS}(hi:b.code[k]?=some i) (h:instrC most s i x at_=(s',none)) (hv:Lv f b k s t) :
  ∃ t',instrC most t i x at_=(t',none)∧Lv f b (k+1) s' t':=by
 unfold instrC at h ⊢
 obtain ⟨h1,h2⟩:=Jt1ed h
 obtain ⟨h3,h4⟩:=Jt1ed h2
 clear h h2
 have u1:∃ t1,(if usesA i.op=true then useC t i.a (regZ x.a) at_ else (t,none))=(t1,none)∧Lv f b k (if usesA i.op=true then useC s i.a (regZ x.a) at_ else (s,none)).1 t1:=by
  by_cases hA:usesA i.op=true
  ·simp only [hA,if_true] at h1 ⊢
   exact Lv.use (s':=(useC s i.a (regZ x.a) at_).1) (by rw [←h1]) hv (PtL.use hi (by unfold useI;simp [hA]))
  ·simp only [hA] at h1 ⊢
   exact ⟨t,rfl,hv⟩
 generalize (if usesA i.op=true then useC s i.a (regZ x.a) at_ else (s,none))=r1 at h1 h3 h4 u1
 obtain ⟨t1,e1,v1⟩:=u1
 rw [e1,Jt1ee]
 have u2:∃ t2,(if usesB i.op=true then useC t1 i.b (regZ x.b) at_ else (t1,none))=(t2,none)∧Lv f b k (if usesB i.op=true then useC r1.1 i.b (regZ x.b) at_ else (r1.1,none)).1 t2:=by
  by_cases hB:usesB i.op=true
  ·simp only [hB,if_true] at h3 ⊢
   exact Lv.use (s':=(useC r1.1 i.b (regZ x.b) at_).1) (by rw [←h3]) v1 (PtL.use hi (by unfold useI;simp [hB]))
  ·simp only [hB] at h3 ⊢
   exact ⟨t1,rfl,v1⟩
 generalize (if usesB i.op=true then useC r1.1 i.b (regZ x.b) at_ else (r1.1,none))=r2 at h3 h4 u2
 obtain ⟨t2,e2,v2⟩:=u2
 rw [e2,Jt1ee]
 by_cases hD:usesD i.op=true
 ·simp only [hD,if_true] at h4 ⊢
  refine Lv.become h4 (Jt1d8 v2.srt) (fun q hq=>?_) (fun q hq hp=>?_)
  ·rw [Jtsm] at hq ⊢
   exact hq.imp id fun h=>⟨v2.sub q h.1,h.2⟩
  ·rw [Jtsm] at hq ⊢
   exact hq.imp id fun h=>⟨v2.live q h.1 (hp.prev hi fun hd=>h.2.1 hd.2.symm),h.2⟩
 ·simp only [hD] at h4 ⊢
  injection h4 with h4;subst h4
  exact ⟨t2,rfl,v2.srt,v2.sub,fun q hq hp=>v2.live q hq (hp.prev hi fun hd=>hD hd.1)⟩
theorem Jt16u{f:Func}{b:Block}{most:Int}{mach:List Mach}{i k:Nat}{rows:List ARow}(hR:RowsF b.code mach i k rows)(hi:i≤b.code.length):∀ {s s' t:CS},rowsC most b.code mach rows s=(s',none)→Lv f b i s t→
  ∃ t',rowsC most b.code mach rows t=(t',none)∧Lv f b b.code.length s' t':=by
 have copies:∀ {i:Nat} {at_:Int} {s s' t:CS},i≤b.code.length→copyC most at_ ((b.code.take (skipW isCopy b.code i)).drop i) s=(s',none)→Lv f b i s t→
   ∃ t',copyC most at_ ((b.code.take (skipW isCopy b.code i)).drop i) t=(t',none)∧Lv f b (skipW isCopy b.code i) s' t':=fun {i at_ s s' t} hi h hv=>by
  obtain ⟨t',e,v⟩:=Lv.copies (k:=i) (fun j x hx=>by
   obtain ⟨q1,q2⟩:=Jt180 x (lmG hx)
   refine ⟨?_,by simpa [isCopy] using q1⟩
   rw [List.getElem?_drop,List.getElem?_take] at hx
   split at hx
   ·exact hx
   ·cases hx) h hv
  refine ⟨t',e,?_⟩
  have hge:=Jt17x isCopy b.code i
  have hle:=Jt17y (f:=isCopy) hi
  rw [List.length_drop,List.length_take,Nat.min_eq_left hle,show i+(skipW isCopy b.code i-i)=skipW isCopy b.code i by omega] at v
  exact v
 induction hR with
 | @last i k h1 h2=>
  intro s s' t h hv
  unfold rowsC at h ⊢
  obtain ⟨h3,h4⟩:=Jt1ed h
  unfold rowsC at h4
  injection h4 with h4
  obtain ⟨s1,s2,c1,c2,c3⟩:=Jt16b (s':=s') (by rw [←h3,←h4])
  obtain ⟨t1,e1,v1⟩:=copies hi c1 hv
  obtain ⟨t2,e2,v2⟩:=Lv.moves c2 v1
  unfold lastC at c3
  rw [if_neg (by simp only;omega)] at c3
  injection c3 with c3
  subst c3
  refine ⟨t2,?_,by rw [←h1];exact v2⟩
  unfold rowC
  simp only at e1 e2 ⊢
  rw [e1,Jt1ee,e2,Jt1ee]
  unfold lastC
  rw [if_neg (by simp only;omega),Jt1ee]
  rfl
 | @next i k x y rest h1 h2 h3 h4 ih=>
  intro s s' t h hv
  unfold rowsC at h ⊢
  obtain ⟨h5,h6⟩:=Jt1ed h
  obtain ⟨u,hu⟩:∃ u,u=(rowC most b.code mach ⟨i,skipW isCopy b.code i,k,skipW isMove mach k,skipW isCopy b.code i,skipW isMove mach k⟩ s).1:=⟨_,rfl⟩
  rw [←hu] at h6
  obtain ⟨s1,s2,c1,c2,c3⟩:=Jt16b (s':=u) (by rw [←h5,hu])
  obtain ⟨t1,e1,v1⟩:=copies hi c1 hv
  obtain ⟨t2,e2,v2⟩:=Lv.moves c2 v1
  have lx:=(lgS.1 h1).1
  unfold lastC at c3
  rw [if_pos (by simp only;omega)] at c3
  simp only [Int.toNat_natCast,h1,h2] at c3
  obtain ⟨t3,e3,v3⟩:=Lv.instr h1 c3 v2
  obtain ⟨t4,e4,v4⟩:=ih (by omega) h6 v3
  refine ⟨t4,?_,v4⟩
  unfold rowC
  simp only at e1 e2 ⊢
  rw [e1,Jt1ee,e2,Jt1ee]
  unfold lastC
  rw [if_pos (by simp only;omega)]
  simp only [Int.toNat_natCast,h1,h2]
  rw [e3,Jt1ee]
  exact e4
theorem Jtaz{b:Block}{m:MBlock}{l:List Pair}{most:Int}(h:(checkZ b m l most).err=0) :
  ∃ s',RowsF b.code m.code 0 0 (alignZ b.code m.code).1∧(alignZ b.code m.code).2.2=0∧termsZ b.term m.term=true∧runC most b m (alignZ b.code m.code).1 ⟨makeP l,0,l.length⟩=(s',none)∧(checkZ b m l most).out=s'.set∧(l.length:Int)≤most:=by
 obtain ⟨s',h1,h2,h3,h4⟩:=Jtax h
 have hm:(l.length:Int)≤most:=by
  unfold checkZ at h
  split at h
  ·cases h
  ·omega
 refine ⟨s',h1,?_,h2,h3,h4,hm⟩
 unfold checkZ at h
 rw [if_neg (by omega)] at h
 by_cases h5:(if (alignZ b.code m.code).2.2=0∧termsZ b.term m.term=false then 20 else (alignZ b.code m.code).2.2)≠0
 ·simp only [if_pos h5] at h;exact absurd h h5
 ·rw [if_neg (fun h=>by rw [h2] at h;cases h.2)] at h5
  simpa using h5
theorem Jtay{b:Block}{m:MBlock}{l:List Pair}{most:Int}{t:CS}(h1:(alignZ b.code m.code).2.2=0) (h2:termsZ b.term m.term=true) (h3:runC most b m (alignZ b.code m.code).1 ⟨makeP l,0,l.length⟩=(t,none)) (hm:(l.length:Int)≤most) :
  (checkZ b m l most).err=0∧(checkZ b m l most).out=t.set:=by
 unfold checkZ
 rw [if_neg (by omega)]
 simp only [h1,h2,h3]
 simp [runE]
theorem Jtb3{f:Func}{b:Block}{m:MBlock}{l l2:List Pair}{most:Int}(herr:(checkZ b m l most).err=0) (hsub:l2.Sublist l) (hl:∀ q∈l,PtL f b q.v 0→q∈l2) :
  (checkZ b m l2 most).err=0∧∀ q∈(checkZ b m l most).out,PtL f b q.v b.code.length→q∈(checkZ b m l2 most).out:=by
 obtain ⟨s',h1,h2,h3,h4,h5,h6⟩:=Jtaz herr
 unfold runC at h4
 obtain ⟨r1,r2⟩:=Jt1ed h4
 obtain ⟨s1,hs1⟩:∃ s1,s1=(rowsC most b.code m.code (alignZ b.code m.code).1 ⟨makeP l,0,l.length⟩).1:=⟨_,rfl⟩
 rw [←hs1] at r2
 have hv:Lv f b 0 ⟨makeP l,0,l.length⟩ ⟨makeP l2,0,l2.length⟩:=⟨Jt1dc l2,fun q hq=>Jtsp.2 (hsub.subset (Jtsp.1 hq)),fun q hq hp=>Jtsp.2 (hl q (Jtsp.1 hq) hp)⟩
 obtain ⟨t1,e1,v1⟩:=Jt16u h1 (Nat.zero_le _) (s:=⟨makeP l,0,l.length⟩) (s':=s1) (by rw [←r1,hs1]) hv
 have hfin:∃ t2,(if b.term.kind=1 then (t1,none) else useC t1 b.term.a (regZ m.term.a) m.code.length)=(t2,none)∧Lv f b b.code.length s' t2:=by
  by_cases hk:b.term.kind=1
  ·simp only [hk,if_true] at r2 ⊢
   injection r2 with r2;subst r2
   exact ⟨t1,rfl,v1⟩
  ·simp only [hk,if_false] at r2 ⊢
   exact Lv.use r2 v1 (PtL.term hk)
 obtain ⟨t2,e2,v2⟩:=hfin
 have hlen:=hsub.length_le
 obtain ⟨j1,j2⟩:=Jtay (l:=l2) (t:=t2) h2 h3 (by unfold runC;rw [e1,Jt1ee];exact e2) (by omega:(l2.length:Int)≤most)
 exact ⟨j1,fun q hq hp=>by rw [j2];rw [h5] at hq;exact v2.live q hq hp⟩
end Go.AE
set_option maxRecDepth 8000
namespace Go.AE
open Go
def keepL(vs:List Int)(l:List Pair):List Pair:=l.filter fun q=>decide (q.v∈vs)
noncomputable def liveTo(c:Cert)(n:Nat):Cert:=⟨c.S,c.T,c.W.mapIdx fun i l=>if i<n then keepL (((liveIn c.S)[i]?).getD []) l else l⟩
noncomputable def liveC(c:Cert):Cert:=liveTo c c.W.length
theorem Jtlx(vs:List Int)(l:List Pair):(keepL vs l).Sublist l:=List.filter_sublist
theorem Jtnz(c:Cert):liveTo c 0=c:=by
 unfold liveTo
 have:(c.W.mapIdx fun i l=>if i<0 then keepL (((liveIn c.S)[i]?).getD []) l else l)=c.W:=by
  apply List.ext_getElem?;intro i;simp
 rw [this]
theorem Jtny{c:Cert}{n:Nat}{l:List Pair}(h:c.W[n]?=some l):liveTo c (n+1)=subC (liveTo c n) n (keepL (((liveIn c.S)[n]?).getD []) l):=by
 unfold liveTo subC
 simp only [Cert.mk.injEq,true_and]
 apply List.ext_getElem?
 intro i
 have hlt:=(lgS.1 h).1
 by_cases hi:i=n
 ·subst hi
  rw [List.getElem?_set_self (by simpa using hlt),List.getElem?_mapIdx,h];simp
 ·rw [List.getElem?_set_ne (Ne.symm hi),List.getElem?_mapIdx,List.getElem?_mapIdx]
  by_cases h2:i<n
  ·simp [h2,show i<n+1 by omega]
  ·simp [h2,show ¬ i<n+1 by omega]
theorem Jtnw{c:Cert}{n i:Nat}{l:List Pair}(h:c.W[i]?=some l):(liveTo c n).W[i]?=some (if i<n then keepL (((liveIn c.S)[i]?).getD []) l else l):=by
 unfold liveTo;simp [List.getElem?_mapIdx,h]
theorem Jtnx{c:Cert}(hv:validZ c=0)(hf:Fit c):∀ n,n≤c.W.length→validZ (liveTo c n)=0∧Fit (liveTo c n):=by
 intro n
 induction n with
 | zero=>intro _;rw [Jtnz];exact ⟨hv,hf⟩
 | succ n ih=>
  intro hn
  obtain ⟨h1,h2⟩:=ih (by omega)
  obtain ⟨l,hl⟩:∃ l,c.W[n]?=some l:=⟨_,lgE (by omega)⟩
  rw [Jtny hl]
  have hg:=Jtnw (n:=n) hl
  rw [if_neg (by omega)] at hg
  exact ⟨Jt1dx h1 hg (Jtlx _ _),Jt1dw h2 hg (Jtlx _ _)⟩
theorem Jtnt{c:Cert}{i:Nat}{l:List Pair}(h:c.W[i]?=some l):(liveC c).W[i]?=some (keepL (((liveIn c.S)[i]?).getD []) l):=by
 have:=Jtnw (n:=c.W.length) h
 rwa [if_pos (lgS.1 h).1] at this
theorem Jt69{c:Cert}(hf:Fit c)(hv:validZ c=0)(hi:((w0 c).all fun q=>initZ q c.S.args)=true) (ho:∀ i,i<c.S.blocks.length→blkOk c i=true):(Jt15v c).err=0:=by
 have h23:(Jt15v c).err≠23:=by
  unfold Jt15v
  rw [if_neg (by simp [hv]),if_neg (by simp [hi])]
  exact (Jt9s hf c.S.blocks.length 0 (rep0 c) (by omega) rfl rfl).1
 refine ((Jtpn hf hv).2 h23).2 ?_
 unfold okTo
 rw [List.all_eq_true]
 exact fun i hir=>ho i (List.mem_range.1 hir)
theorem Jto1{c:Cert}(ok:OkV c.S)(hv:validZ c=0)(hf:Fit c)(he:(Jt15v c).err=0):validZ (liveC c)=0∧Fit (liveC c)∧(Jt15v (liveC c)).err=0:=by
 obtain ⟨hv2,hf2⟩:=Jtnx hv hf c.W.length (Nat.le_refl _)
 refine ⟨hv2,hf2,Jt69 hf2 hv2 ?_ ?_⟩
 ·have h1:=Jt68 hv he
  rw [List.all_eq_true] at h1 ⊢
  intro q hq
  refine h1 q ?_
  have hlw:=hf.lenW
  have hp:=hf.pos
  obtain ⟨l,hl⟩:∃ l,c.W[0]?=some l:=⟨_,lgE (by omega)⟩
  unfold w0 at hq ⊢
  have:=Jtnt hl
  rw [this] at hq
  rw [hl]
  exact (Jtlx _ _).subset hq
 ·intro i hi
  have hi:i<c.S.blocks.length:=hi
  have hlT:=hf.lenT
  have hlW:=hf.lenW
  obtain ⟨b,hb⟩:∃ b,c.S.blocks[i]?=some b:=⟨_,lgE (by omega)⟩
  obtain ⟨m,hm⟩:∃ b,c.T.blocks[i]?=some b:=⟨_,lgE (by omega)⟩
  obtain ⟨w,hw⟩:∃ b,c.W[i]?=some b:=⟨_,lgE (by omega)⟩
  have hLi:∀ {j:Nat},j<c.S.blocks.length→((liveIn c.S)[j]?).getD []=liveS c.S j:=fun {j} hj=>by
   unfold liveIn;simp [hj]
  have ho:=acc_ok hf hv he i hi
  rw [Jt80 hb hm hw,Bool.and_eq_true] at ho
  obtain ⟨ho1,ho2⟩:=ho
  have ho1:(checkZ b m w 1048576).err=0:=by simpa using ho1
  have hcl:=Jtb3 (f:=c.S) (l2:=keepL (((liveIn c.S)[i]?).getD []) w) ho1 (Jtlx _ _) (fun q hq hp=>by
   rw [hLi hi]
   unfold keepL
   rw [List.mem_filter]
   exact ⟨hq,by simpa using (Jtsn ok).2 (hp.entry hb)⟩)
  have hb2:(liveC c).S.blocks[i]?=some b:=hb
  have hm2:(liveC c).T.blocks[i]?=some m:=hm
  rw [Jt80 hb2 hm2 (Jtnt hw),Bool.and_eq_true]
  refine ⟨by simpa using hcl.1,?_⟩
  rw [List.all_eq_true] at ho2 ⊢
  intro x hx
  have h3:=ho2 x hx
  unfold hasE at h3 ⊢
  rw [Bool.not_eq_true',Jttd] at h3 ⊢
  intro q hq
  obtain ⟨x0,x1⟩:=hf.to b (lmG hb) x hx
  obtain ⟨wt,hwt⟩:∃ b,c.W[x.toNat]?=some b:=⟨_,lgE (by omega)⟩
  have hg:=Jtnt hwt
  rw [hg,Option.getD_some,hLi (by omega)] at hq
  unfold keepL at hq
  rw [List.mem_filter] at hq
  rw [hwt] at h3
  refine hcl.2 q (h3 q hq.1) (PtL.out hx ((Jtsn ok).1 (by simpa using hq.2)))
def dropP(p:Pair)(l:List Pair):List Pair:=l.filter fun q=>decide (q≠p)
def remC(c:Cert)(i:Nat)(p:Pair):Cert:=subC c i (dropP p ((c.W[i]?).getD []))
def tryC(i:Nat)(c:Cert)(p:Pair):Cert:=if (Jt15v (remC c i p)).err=0 then remC c i p else c
def passB(c:Cert)(i:Nat):Cert:=((c.W[i]?).getD []).foldl (tryC i) c
def passC(c:Cert):Cert:=(List.range c.W.length).foldl passB c
def minC:Nat→Cert→Cert
 | 0,c=>c
 | n+1,c=>if wTotal (passC c).W<wTotal c.W then minC n (passC c) else passC c
structure Sm (a b:Cert):Prop where
 S:a.S=b.S
 T:a.T=b.T
 len:a.W.length=b.W.length
 sub:∀ (i:Nat) (l m:List Pair),a.W[i]?=some l→b.W[i]?=some m→l.Sublist m
theorem Sm.refl(c:Cert):Sm c c:=⟨rfl,rfl,rfl,fun i l m h1 h2=>by rw [h1] at h2;injection h2 with h2;subst h2;exact List.Sublist.refl _⟩
theorem Sm.trans{a b c:Cert}(h1:Sm a b)(h2:Sm b c):Sm a c:=by
 refine ⟨h1.S.trans h2.S,h1.T.trans h2.T,h1.len.trans h2.len,fun i l m hl hm=>?_⟩
 obtain ⟨x,hx⟩:∃ x,b.W[i]?=some x:=⟨_,lgE (by rw [←h1.len];exact (lgS.1 hl).1)⟩
 exact (h1.sub i l x hl hx).trans (h2.sub i x m hx hm)
theorem sm_sub{c:Cert}{k:Nat}{l L:List Pair}(hL:c.W[k]?=some L) (hs:l.Sublist L):Sm (subC c k l) c:=by
 refine ⟨rfl,rfl,by simp [subC],fun i x m hx hm=>?_⟩
 have hx:(c.W.set k l)[i]?=some x:=hx
 by_cases hi:k=i
 ·subst hi
  rw [List.getElem?_set_self (lgS.1 hL).1] at hx
  injection hx with hx;subst hx
  rw [hL] at hm;injection hm with hm;subst hm;exact hs
 ·rw [List.getElem?_set_ne hi] at hx
  rw [hx] at hm;injection hm with hm;subst hm;exact List.Sublist.refl _
theorem Jtdc(p:Pair)(l:List Pair):(dropP p l).Sublist l:=List.filter_sublist
theorem Jt15a{c:Cert}{i:Nat}(hi:i<c.W.length)(p:Pair):Sm (remC c i p) c:=by
 have hL:=lgE hi
 unfold remC;rw [hL];exact sm_sub hL (Jtdc _ _)
structure AccC (c:Cert):Prop where
 v:validZ c=0
 fit:Fit c
 acc:(Jt15v c).err=0
theorem Jt159{c:Cert}(h:AccC c){i:Nat}(hi:i<c.W.length)(p:Pair):validZ (remC c i p)=0∧Fit (remC c i p):=by
 have hL:=lgE hi
 unfold remC;rw [hL];exact ⟨Jt1dx h.v hL (Jtdc _ _),Jt1dw h.fit hL (Jtdc _ _)⟩
theorem Jt1fz {w:List (List Pair)} {k:Nat} {l L:List Pair} (h:w[k]?=some L):wTotal (w.set k l)+L.length=wTotal w+l.length:=by
 induction w generalizing k with
 | nil=>simp at h
 | cons a w ih=>
  cases k with
  | zero=>
   simp only [List.getElem?_cons_zero,Option.some.injEq] at h;subst h
   simp only [List.set_cons_zero,wTotal,List.map_cons,List.sum_cons];omega
  | succ k=>
   have:=ih (k:=k) (by simpa using h)
   simp only [List.set_cons_succ,wTotal,List.map_cons,List.sum_cons] at *;omega
theorem Jt15b{c:Cert}{i:Nat}(hi:i<c.W.length)(p:Pair):wTotal (remC c i p).W≤wTotal c.W∧(wTotal (remC c i p).W=wTotal c.W→remC c i p=c):=by
 have hL:=lgE hi
 have ht:=Jt1fz (l:=dropP p c.W[i]) hL
 have hle:=(Jtdc p c.W[i]).length_le
 unfold remC subC
 rw [hL,Option.getD_some]
 refine ⟨by show wTotal (c.W.set i _)≤_;omega,fun he=>?_⟩
 have he:wTotal (c.W.set i (dropP p c.W[i]))=wTotal c.W:=he
 have hd:dropP p c.W[i]=c.W[i]:=(Jtdc p c.W[i]).eq_of_length (by omega)
 rw [hd]
 have:c.W.set i c.W[i]=c.W:=List.set_getElem_self hi
 rw [this]
theorem Jt1fd{c:Cert}(h:AccC c){i:Nat}(hi:i<c.W.length)(p:Pair):AccC (tryC i c p)∧Sm (tryC i c p) c∧wTotal (tryC i c p).W≤wTotal c.W∧(wTotal (tryC i c p).W=wTotal c.W→tryC i c p=c):=by
 unfold tryC
 split
 ·rename_i he
  obtain ⟨h1,h2⟩:=Jt159 h hi p
  obtain ⟨h3,h4⟩:=Jt15b hi p
  exact ⟨⟨h1,h2,he⟩,Jt15a hi p,h3,h4⟩
 ·exact ⟨h,Sm.refl c,Nat.le_refl _,fun _=>rfl⟩
theorem Jt1fb{i:Nat}:∀ (ps:List Pair) {c:Cert},AccC c→i<c.W.length→AccC (ps.foldl (tryC i) c)∧Sm (ps.foldl (tryC i) c) c∧wTotal (ps.foldl (tryC i) c).W≤wTotal c.W∧
  (wTotal (ps.foldl (tryC i) c).W=wTotal c.W→ps.foldl (tryC i) c=c∧∀ p∈ps,tryC i c p=c):=by
 intro ps
 induction ps with
 | nil=>intro c h _;exact ⟨h,Sm.refl c,Nat.le_refl _,fun _=>⟨rfl,fun p hp=>by simp at hp⟩⟩
 | cons p ps ih=>
  intro c h hi
  obtain ⟨h1,h2,h3,h4⟩:=Jt1fd h hi p
  obtain ⟨k1,k2,k3,k4⟩:=ih h1 (by rw [h2.len];exact hi)
  simp only [List.foldl_cons]
  refine ⟨k1,k2.trans h2,by omega,fun he=>?_⟩
  have e1:=h4 (by omega)
  obtain ⟨e2,e3⟩:=k4 (by omega)
  rw [e1] at e2 e3 ⊢
  refine ⟨e2,fun q hq=>?_⟩
  rcases List.mem_cons.1 hq with rfl | hq
  ·exact e1
  ·exact e3 q hq
theorem Jtxk{c:Cert}(h:AccC c){i:Nat}(hi:i<c.W.length):AccC (passB c i)∧Sm (passB c i) c∧wTotal (passB c i).W≤wTotal c.W∧(wTotal (passB c i).W=wTotal c.W→passB c i=c∧∀ l,c.W[i]?=some l→∀ p∈l,tryC i c p=c):=by
 obtain ⟨k1,k2,k3,k4⟩:=Jt1fb ((c.W[i]?).getD []) h hi
 exact ⟨k1,k2,k3,fun he=>⟨(k4 he).1,fun l hl p hp=>(k4 he).2 p (by rw [hl];exact hp)⟩⟩
theorem Jtxm:∀ (is:List Nat) {c:Cert},AccC c→(∀ i∈is,i<c.W.length)→AccC (is.foldl passB c)∧Sm (is.foldl passB c) c∧wTotal (is.foldl passB c).W≤wTotal c.W∧
  (wTotal (is.foldl passB c).W=wTotal c.W→is.foldl passB c=c∧∀ i∈is,∀ l,c.W[i]?=some l→∀ p∈l,tryC i c p=c):=by
 intro is
 induction is with
 | nil=>intro c h _;exact ⟨h,Sm.refl c,Nat.le_refl _,fun _=>⟨rfl,fun p hp=>by simp at hp⟩⟩
 | cons i is ih=>
  intro c h hi
  obtain ⟨h1,h2,h3,h4⟩:=Jtxk h (hi i (by simp))
  obtain ⟨k1,k2,k3,k4⟩:=ih h1 (fun j hj=>by rw [h2.len];exact hi j (by simp [hj]))
  simp only [List.foldl_cons]
  refine ⟨k1,k2.trans h2,by omega,fun he=>?_⟩
  obtain ⟨e1,e4⟩:=h4 (by omega)
  obtain ⟨e2,e3⟩:=k4 (by omega)
  rw [e1] at e2 e3 ⊢
  refine ⟨e2,fun q hq=>?_⟩
  rcases List.mem_cons.1 hq with rfl | hq
  ·exact e4
  ·exact e3 q hq
theorem Jtxl{c:Cert}(h:AccC c):AccC (passC c)∧Sm (passC c) c∧wTotal (passC c).W≤wTotal c.W∧(wTotal (passC c).W=wTotal c.W→passC c=c∧∀ i l,c.W[i]?=some l→∀ p∈l,tryC i c p=c):=by
 obtain ⟨k1,k2,k3,k4⟩:=Jtxm (List.range c.W.length) h fun i hi=>List.mem_range.1 hi
 exact ⟨k1,k2,k3,fun he=>⟨(k4 he).1,fun i l hl=>(k4 he).2 i (List.mem_range.2 (lgS.1 hl).1) l hl⟩⟩
theorem Jtt6:∀ (n:Nat) {c:Cert},AccC c→wTotal c.W<n→AccC (minC n c)∧Sm (minC n c) c∧∀ i l,(minC n c).W[i]?=some l→∀ p∈l,(Jt15v (remC (minC n c) i p)).err≠0:=by
 intro n
 induction n with
 | zero=>intro c _ h;omega
 | succ n ih=>
  intro c h hn
  obtain ⟨h1,h2,h3,h4⟩:=Jtxl h
  unfold minC
  split
  ·rename_i hlt
   obtain ⟨k1,k2,k3⟩:=ih h1 (by omega)
   exact ⟨k1,k2.trans h2,k3⟩
  ·rename_i hlt
   obtain ⟨e1,e2⟩:=h4 (by omega)
   rw [e1]
   refine ⟨h,Sm.refl c,fun i l hl p hp he=>?_⟩
   have h5:=e2 i l hl p hp
   unfold tryC at h5
   rw [if_pos he] at h5
   have hi:=(lgS.1 hl).1
   have hw:(remC c i p).W[i]?=c.W[i]?:=by rw [h5]
   unfold remC subC at hw
   have hw:(c.W.set i (dropP p ((c.W[i]?).getD [])))[i]?=c.W[i]?:=hw
   rw [List.getElem?_set_self hi,hl,Option.getD_some] at hw
   injection hw with hw
   have:p∈dropP p l:=by rw [hw];exact hp
   simp [dropP] at this
structure DelOk (P:Program) (g:Nat) (k0:Blk) (f:Pair→Bool):Prop where
 ok:okFn P g=true
 run:∀ q:Pair,Jt51 P g [q.av,.ptr 0 0] [k0] fun o H'=>o=.ret (AB (f q))∧H'=[k0]
 ren:∀ ρ:Nat→Option Nat,k0.ren ρ=some k0
def keptP(f:Pair→Bool)(l:List Pair):List Pair:=l.filter fun q=>!f q
def idxP(f:Pair→Bool)(l:List Pair):Nat:=l.findIdx f
def zeroP:Pair:=⟨0,0⟩
theorem Jt15j{k0:Blk}(h:∀ ρ:Nat→Option Nat,k0.ren ρ=some k0){ρ:Nat→Option Nat}:renB ρ [k0]=some [k0]:=by simp [renB,h]
theorem Jt15k{k0:Blk}(h:∀ ρ:Nat→Option Nat,k0.ren ρ=some k0){ρ:Nat→Option Nat}{rows:List (List D)}:renB ρ [k0,.mem (Jt16d rows)]=some [k0,.mem (Jt16d rows)]:=by
 have h1:renL ρ (Jt16d rows)=some (Jt16d rows):=renL_d _
 have h2:Blk.ren ρ (.mem (Jt16d rows))=some (.mem (Jt16d rows)):=by simp only [Blk.ren,h1]
 simp only [renB,h ρ,h2]
theorem WkB_k0{H:List Blk}{n:Nat}{k0:Blk}(h:∀ ρ:Nat→Option Nat,k0.ren ρ=some k0):WkB H n k0 k0:=by
 cases k0 with
 | mem cells=>
  have:=h (fun b=>if b<n then some b else none)
  simp only [Blk.ren] at this
  split at this
  ·rename_i cs hcs;injection this with this;injection this with this;subst this;exact .same hcs
  ·cases this
 | iter s p=>exact .iter _ _
 | glob r o=>exact .glob _ _
 | dead=>exact .dead _
theorem Jtl2{f:Pair→Bool}{l:List Pair}(h:∀ q∈l,f q=false):¬ idxP f l<l.length:=by
 unfold idxP
 intro hlt
 have:=List.findIdx_getElem (p:=f) (xs:=l) (w:=hlt)
 rw [h _ (List.getElem_mem _)] at this;cases this
theorem Jtl1{f:Pair→Bool}{l:List Pair}{k:Nat}(hk:k<l.length)(h:∀ q∈l.take k,f q=false)(hf:f l[k]=true):idxP f l=k:=by
 unfold idxP
 rw [List.findIdx_eq hk]
 refine ⟨hf,fun j hj=>?_⟩
 have h1:(l.take k)[j]?=some l[j]:=by rw [List.getElem?_take,if_pos hj];simp
 exact h _ (lmG h1)
section
variable {P:Program} {p:Nums}
theorem Jt19v(A:All P p){g:Nat}{k0:Blk}{f:Pair→Bool}(hg:DelOk P g k0 f)(l:List Pair)(h0:l.length<1000000):
  Jt51 P p.Yf3e [.hsl 1 0 2 l.length,.fn (.func g) [] [.ptr 0 0]] [k0,.mem (Jt16d (l.map Pair.row))] fun o H'=>o=.ret (AI (if idxP f l<l.length then (idxP f l:Int) else -1))∧H'=[k0,.mem (Jt16d (l.map Pair.row))]:=by
 refine A.Yf3e.run rfl fun R hR=>?_
 obtain ⟨T,hT⟩:∃ T:Int,T=if idxP f l<l.length then (idxP f l:Int) else -1:=⟨_,rfl⟩
 rw [←hT] at hR
 (simp (maxSteps:=9^6)[Jtkf])
 refine Jtf (fun k:Nat=>⟨[(8,AI k),(7,AI l.length),(1,.fn (.func g) [] [.ptr 0 0]),(0,.hsl 1 0 2 l.length)],[k0,.mem (Jt16d (l.map Pair.row))]⟩) (fun k=>k≤l.length∧∀ q∈l.take k,f q=false) (fun k=>l.length-k) 0 (by simp)
  (by refine Wk.of ?_ ⟨WkB_k0 hg.ren,Jt5o,trivial⟩ (by simp)<;>repeat' (first|exact True.intro|exact ⟨_,rfl,Jt1l6 rfl⟩ | exact ⟨_,rfl,Jt1l4 rfl⟩ | exact ⟨_,rfl,.inl .nild⟩ | exact ⟨_,rfl,.inl .nile⟩ | exact ⟨_,rfl,Jt1l5⟩ | exact Jt1l6 rfl|exact Jt1l4 rfl|exact .inl .nild|exact .inl .nile|exact Jt1l5|exact WkB.same rfl|exact Jt5o|exact Jt5n|exact .dead _|exact .iter _ _|exact .glob _ _|refine Jt5k ?_ ?_|refine And.intro ?_ ?_)) ?_
 rintro k ⟨hk,hz⟩ N hN
 have hlc:=Jt16f l
 have hce:=Jt16k (l.map Pair.row)
 (simp (maxSteps:=9^6)[])
 ((first|refine Xc ?_ ?_|refine Xo ?_ ?_)<;>intro h2<;>try simp only [Xz,Xy] at h2)
 ·have hkl:k<l.length:=by omega
  have hw:=Jt1le (k:=k) (by omega)
  have hp:=Jtvg (l:=l) (k:=k) hkl
  obtain ⟨q,hq⟩:∃ q,q=l[k]:=⟨_,rfl⟩
  have hat:f q=true→idxP f l=k:=fun h=>Jtl1 hkl hz (by rw [←hq];exact h)
  have hnx:f q=false→∀ x∈l.take (k+1),f x=false:=by
   intro h x hx
   rw [List.take_add_one,lgE hkl] at hx
   rcases List.mem_append.1 hx with hx | hx
   ·exact hz x hx
   ·simp only [Option.toList,List.mem_singleton] at hx;rw [hx,←hq];exact h
  have hrn:=fun (ρ:Nat→Option Nat)=>Jt15j hg.ren (ρ:=ρ)
  have hrun:=hg.run q
  rw [←hq] at hp
  obtain ⟨C,hC⟩:∃ C,C=Jt16d (l.map Pair.row):=⟨_,rfl⟩
  rw [←hC] at hlc hp hce hR hN ⊢
  have hl1:k*2+2≤C.length:=by omega
  (simp (maxSteps:=9^6)[h2,hkl,hl1,hp,hce])
  refine ⟨hg.ok,Jt19 [0] hrun (by decide) (by rfl) (by rfl) (hrn _) (hrn _) (by rfl) (by rfl) ?_⟩
  (simp (maxSteps:=9^6)[])
  cases hf:f q with
  | true=>
   have hT2:T=k:=by rw [hT,hat hf,if_pos hkl]
   (simp (maxSteps:=9^6)[hf])
   refine hR _ _ (Jt58 _ (AI k) [k0,.mem C] rfl (by rw [hC];refine Wk.of ?_ ⟨WkB_k0 hg.ren,Jt5o,trivial⟩ (by simp)<;>repeat' (first|exact True.intro|exact ⟨_,rfl,Jt1l6 rfl⟩ | exact ⟨_,rfl,Jt1l4 rfl⟩ | exact ⟨_,rfl,.inl .nild⟩ | exact ⟨_,rfl,.inl .nile⟩ | exact ⟨_,rfl,Jt1l5⟩ | exact Jt1l6 rfl|exact Jt1l4 rfl|exact .inl .nild|exact .inl .nile|exact Jt1l5|exact WkB.same rfl|exact Jt5o|exact Jt5n|exact .dead _|exact .iter _ _|exact .glob _ _|refine Jt5k ?_ ?_|refine And.intro ?_ ?_)) ⟨by rw [hT2],rfl⟩)
  | false=>
   (simp (maxSteps:=9^6)[hf,hw])
   refine hN _ (k+1) ⟨hkl,hnx hf⟩ (by rw [hC];refine Wk.of ?_ ⟨WkB_k0 hg.ren,Jt5o,trivial⟩ (by simp)<;>repeat' (first|exact True.intro|exact ⟨_,rfl,Jt1l6 rfl⟩ | exact ⟨_,rfl,Jt1l4 rfl⟩ | exact ⟨_,rfl,.inl .nild⟩ | exact ⟨_,rfl,.inl .nile⟩ | exact ⟨_,rfl,Jt1l5⟩ | exact Jt1l6 rfl|exact Jt1l4 rfl|exact .inl .nild|exact .inl .nile|exact Jt1l5|exact WkB.same rfl|exact Jt5o|exact Jt5n|exact .dead _|exact .iter _ _|exact .glob _ _|refine Jt5k ?_ ?_|refine And.intro ?_ ?_)) (by omega)
 ·have hk':k=l.length:=by omega
  subst hk'
  rw [List.take_length] at hz
  have hT2:T = -1:=by rw [hT,if_neg (Jtl2 hz)]
  (simp (maxSteps:=9^6)[])
  refine hR _ _ (Jt58 _ (AI (-1)) [k0,.mem (Jt16d (l.map Pair.row))] rfl (by refine Wk.of ?_ ⟨WkB_k0 hg.ren,Jt5o,trivial⟩ (by simp)<;>repeat' (first|exact True.intro|exact ⟨_,rfl,Jt1l6 rfl⟩ | exact ⟨_,rfl,Jt1l4 rfl⟩ | exact ⟨_,rfl,.inl .nild⟩ | exact ⟨_,rfl,.inl .nile⟩ | exact ⟨_,rfl,Jt1l5⟩ | exact Jt1l6 rfl|exact Jt1l4 rfl|exact .inl .nild|exact .inl .nile|exact Jt1l5|exact WkB.same rfl|exact Jt5o|exact Jt5n|exact .dead _|exact .iter _ _|exact .glob _ _|refine Jt5k ?_ ?_|refine And.intro ?_ ?_)) ⟨by rw [hT2],rfl⟩)
theorem Jt19w(A:All P p){g:Nat}{k0:Blk}(hren:∀ ρ:Nat→Option Nat,k0.ren ρ=some k0):Jt51 P p.Yf3e [.d (.sl []),.fn (.func g) [] [.ptr 0 0]] [k0] fun o H'=>o=.ret (AI (-1))∧H'=[k0]:=by
 refine A.Yf3e.run rfl fun R hR=>?_
 (simp (maxSteps:=9^6)[Jtkf])
 refine Jtf (fun k:Unit=>⟨[(8,AI 0),(7,AI 0)],[k0]⟩) (fun k=>True) (fun k=>0) () trivial (by refine Wk.of ?_ ⟨WkB_k0 hren,trivial⟩ (by simp)<;>repeat' (first|exact True.intro|exact ⟨_,rfl,Jt1l6 rfl⟩ | exact ⟨_,rfl,Jt1l4 rfl⟩ | exact ⟨_,rfl,.inl .nild⟩ | exact ⟨_,rfl,.inl .nile⟩ | exact ⟨_,rfl,Jt1l5⟩ | exact Jt1l6 rfl|exact Jt1l4 rfl|exact .inl .nild|exact .inl .nile|exact Jt1l5|exact WkB.same rfl|exact Jt5o|exact Jt5n|exact .dead _|exact .iter _ _|exact .glob _ _|refine Jt5k ?_ ?_|refine And.intro ?_ ?_)) ?_
 rintro k hk N hN
 (simp (maxSteps:=9^6)[])
 refine hR _ _ (Jt58 _ (AI (-1)) [k0] rfl (by refine Wk.of ?_ ⟨WkB_k0 hren,trivial⟩ (by simp)<;>repeat' (first|exact True.intro|exact ⟨_,rfl,Jt1l6 rfl⟩ | exact ⟨_,rfl,Jt1l4 rfl⟩ | exact ⟨_,rfl,.inl .nild⟩ | exact ⟨_,rfl,.inl .nile⟩ | exact ⟨_,rfl,Jt1l5⟩ | exact Jt1l6 rfl|exact Jt1l4 rfl|exact .inl .nild|exact .inl .nile|exact Jt1l5|exact WkB.same rfl|exact Jt5o|exact Jt5n|exact .dead _|exact .iter _ _|exact .glob _ _|refine Jt5k ?_ ?_|refine And.intro ?_ ?_)) ⟨rfl,rfl⟩)
theorem Jt19p(A:All P p){g:Nat}{k0:Blk}(hren:∀ ρ:Nat→Option Nat,k0.ren ρ=some k0):Jt51 P p.Yf36 [.d (.sl []),.fn (.func g) [] [.ptr 0 0]] [k0] fun o H'=>o=.ret (.d (.sl []))∧H'=[k0]:=by
 refine A.Yf36.run rfl fun R hR=>?_
 (simp (maxSteps:=9^6)[Jtke])
 refine Jt19 [0] (Jt19w A hren) (by decide) (by rfl) (by rfl) (Jt15j hren) (Jt15j hren) (by rfl) (by rfl) ?_
 (simp (maxSteps:=9^6)[])
 refine hR _ _ (Jt58 _ (.d (.sl [])) [k0] rfl (by refine Wk.of ?_ ⟨WkB_k0 hren,trivial⟩ (by simp)<;>repeat' (first|exact True.intro|exact ⟨_,rfl,Jt1l6 rfl⟩ | exact ⟨_,rfl,Jt1l4 rfl⟩ | exact ⟨_,rfl,.inl .nild⟩ | exact ⟨_,rfl,.inl .nile⟩ | exact ⟨_,rfl,Jt1l5⟩ | exact Jt1l6 rfl|exact Jt1l4 rfl|exact .inl .nild|exact .inl .nile|exact Jt1l5|exact WkB.same rfl|exact Jt5o|exact Jt5n|exact .dead _|exact .iter _ _|exact .glob _ _|refine Jt5k ?_ ?_|refine And.intro ?_ ?_)) ⟨rfl,rfl⟩)
theorem Jt19o(A:All P p){g:Nat}{k0:Blk}{f:Pair→Bool}(hg:DelOk P g k0 f)(l:List Pair)(h0:l.length<1000000):
  Jt51 P p.Yf36 [.hsl 1 0 2 l.length,.fn (.func g) [] [.ptr 0 0]] [k0,.mem (Jt16d (l.map Pair.row))] fun o H'=>o=.ret (.hsl 1 0 2 (keptP f l).length)∧
   H'=[k0,.mem (Jt16d ((keptP f l++List.replicate (l.length-(keptP f l).length) zeroP).map Pair.row))]:=by
 refine A.Yf36.run rfl fun R hR=>?_
 obtain ⟨T,hT⟩:∃ T,T=keptP f l:=⟨_,rfl⟩
 rw [←hT] at hR
 have hix:=Jt19v A hg l h0
 obtain ⟨I0,hI0⟩:∃ I0:Int,I0=if idxP f l<l.length then (idxP f l:Int) else -1:=⟨_,rfl⟩
 rw [←hI0] at hix
 have hrn1:=fun (ρ:Nat→Option Nat)=>Jt15k hg.ren (ρ:=ρ) (rows:=l.map Pair.row)
 (simp (maxSteps:=9^6)[Jtke])
 refine Jt19 [0,1] hix (by decide) (by rfl) (by rfl) (hrn1 _) (hrn1 _) (by rfl) (by rfl) ?_
 (simp (maxSteps:=9^6)[])
 by_cases hI:I0 = -1
 ·have hno:∀ q∈l,f q=false:=by
   intro q hq
   cases hf:f q with
   | false=>rfl
   | true=>
    exfalso
    have:idxP f l<l.length:=by unfold idxP;exact List.findIdx_lt_length_of_exists ⟨q,hq,hf⟩
    rw [if_pos this] at hI0;omega
  have hT2:T=l:=by rw [hT,keptP,List.filter_eq_self];intro q hq;simp [hno q hq]
  rw [hT2,Nat.sub_self,List.replicate_zero,List.append_nil] at hR
  have hIb:(I0 == -1)=true:=by simpa using hI
  (simp (maxSteps:=9^6)[hI,hIb])
  refine hR _ _ (Jt58 _ (.hsl 1 0 2 l.length) [k0,.mem (Jt16d (l.map Pair.row))] rfl (by refine Wk.of ?_ ⟨WkB_k0 hg.ren,Jt5o,trivial⟩ (by simp)<;>repeat' (first|exact True.intro|exact ⟨_,rfl,Jt1l6 rfl⟩ | exact ⟨_,rfl,Jt1l4 rfl⟩ | exact ⟨_,rfl,.inl .nild⟩ | exact ⟨_,rfl,.inl .nile⟩ | exact ⟨_,rfl,Jt1l5⟩ | exact Jt1l6 rfl|exact Jt1l4 rfl|exact .inl .nild|exact .inl .nile|exact Jt1l5|exact WkB.same rfl|exact Jt5o|exact Jt5n|exact .dead _|exact .iter _ _|exact .glob _ _|refine Jt5k ?_ ?_|refine And.intro ?_ ?_)) ⟨rfl,rfl⟩)
 ·have hlt:idxP f l<l.length:=by
   by_cases h:idxP f l<l.length
   ·exact h
   ·rw [if_neg h] at hI0;exact absurd hI0 hI
  obtain ⟨i0,hi0⟩:∃ i0,i0=idxP f l:=⟨_,rfl⟩
  rw [if_pos hlt,←hi0] at hI0
  rw [←hi0] at hlt
  have hpre:∀ j (hj:j<i0),f (l[j]'(by omega))=false:=fun j hj=>by
   have:=List.not_of_lt_findIdx (p:=f) (xs:=l) (i:=j) (by rw [hi0] at hj;exact hj)
   simpa using this
  have hfi:f l[i0]=true:=by
   have:=List.findIdx_getElem (p:=f) (xs:=l) (w:=by rw [hi0] at hlt;exact hlt)
   simp only [hi0];exact this
  have hk0:keptP f (l.take (i0+1))=l.take i0:=by
   unfold keptP
   rw [List.take_add_one,List.filter_append,lgE hlt]
   have e1:(l.take i0).filter (fun q=>!f q)=l.take i0:=by
    rw [List.filter_eq_self]
    intro q hq
    obtain ⟨j,hj,rfl⟩:=List.mem_iff_getElem.1 hq
    simp only [List.length_take] at hj
    rw [List.getElem_take,hpre j (by omega)];rfl
   rw [e1]
   simp [hfi]
  subst hI0
  have hIb:((i0:Int) == -1)=false:=by simp
  have hw0:=Jt1le (k:=i0) (by omega)
  (simp (maxSteps:=9^6)[hIb,hw0])
  refine Jtf (fun s:Nat × Nat × List Pair=>⟨[(6,AI s.1),(5,AI s.2.1),(1,.fn (.func g) [] [.ptr 0 0]),(0,.hsl 1 0 2 l.length)],[k0,.mem (Jt16d (s.2.2.map Pair.row))]⟩)
   (fun s=>s.1≤l.length∧s.2.1<s.1∧s.2.2.length=l.length∧s.2.2.take s.2.1=keptP f (l.take s.1)∧s.2.2.drop s.1=l.drop s.1) (fun s=>l.length-s.1) (i0+1,i0,l)
   ⟨by simp only;omega,by simp,rfl,hk0.symm,rfl⟩ (by refine Wk.of ?_ ⟨WkB_k0 hg.ren,Jt5o,trivial⟩ (by simp)<;>repeat' (first|exact True.intro|exact ⟨_,rfl,Jt1l6 rfl⟩ | exact ⟨_,rfl,Jt1l4 rfl⟩ | exact ⟨_,rfl,.inl .nild⟩ | exact ⟨_,rfl,.inl .nile⟩ | exact ⟨_,rfl,Jt1l5⟩ | exact Jt1l6 rfl|exact Jt1l4 rfl|exact .inl .nild|exact .inl .nile|exact Jt1l5|exact WkB.same rfl|exact Jt5o|exact Jt5n|exact .dead _|exact .iter _ _|exact .glob _ _|refine Jt5k ?_ ?_|refine And.intro ?_ ?_)) ?_
  rintro ⟨j,i,cur⟩ ⟨hj,hij,hcl,hct,hcd⟩ N hN
  simp only at hj hij hcl hct hcd hN ⊢
  have hlc:=Jt16f cur
  have hce:=Jt16k (cur.map Pair.row)
  (simp (maxSteps:=9^6)[])
  ((first|refine Xc ?_ ?_|refine Xo ?_ ?_)<;>intro h2<;>try simp only [Xz,Xy] at h2)
  ·have hjl:j<l.length:=by omega
   have hwj:=Jt1le (k:=j) (by omega)
   have hwi:=Jt1le (k:=i) (by omega)
   have hcj:cur[j]'(by omega)=l[j]:=by
    have e1:=congrArg (fun x:List Pair=>x[0]?) hcd
    simp only [List.getElem?_drop,Nat.add_zero] at e1
    rw [lgE hjl,lgE (by omega)] at e1
    injection e1
   have hp:=Jtvg (l:=cur) (k:=j) (by omega)
   rw [hcj] at hp
   have hks:keptP f (l.take (j+1))=keptP f (l.take j)++if f l[j]=true then [] else [l[j]]:=by
    unfold keptP
    rw [List.take_add_one,List.filter_append,lgE hjl]
    cases hf:f l[j]<;>simp [hf]
   obtain ⟨q,hq⟩:∃ q,q=l[j]:=⟨_,rfl⟩
   rw [←hq] at hp hks
   have hrn:=fun (ρ:Nat→Option Nat)=>Jt15j hg.ren (ρ:=ρ)
   have hrun:=hg.run q
   have hset:=Jt1cw (rows:=cur.map Pair.row) (e:=2) (k:=i) (row:=q.row) (Jt16t fun _=>rfl) rfl (by simp;omega)
   have hcd2:cur.drop (j+1)=l.drop (j+1):=by
    have:=congrArg (List.drop 1) hcd
    rw [List.drop_drop,List.drop_drop] at this
    simpa using this
   obtain ⟨C,hC⟩:∃ C,C=Jt16d (cur.map Pair.row):=⟨_,rfl⟩
   rw [←hC] at hlc hp hce hset ⊢
   have hl1:j*2+2≤C.length:=by omega
   have hl2:i*2+2≤C.length:=by omega
   have hil:i<l.length:=by omega
   (simp (maxSteps:=9^6)[h2,hjl,hl1,hp,hce])
   refine ⟨hg.ok,Jt19 [0] hrun (by decide) (by rfl) (by rfl) (hrn _) (hrn _) (by rfl) (by rfl) ?_⟩
   (simp (maxSteps:=9^6)[])
   cases hf:f q with
   | true=>
    rw [hf,if_pos rfl,List.append_nil] at hks
    (simp (maxSteps:=9^6)[hf,hwj])
    refine hN _ (j+1,i,cur) ⟨by simp only;omega,by simp only;omega,hcl,by simp only;rw [hct,hks],hcd2⟩ (by rw [hC];refine Wk.of ?_ ⟨WkB_k0 hg.ren,Jt5o,trivial⟩ (by simp)<;>repeat' (first|exact True.intro|exact ⟨_,rfl,Jt1l6 rfl⟩ | exact ⟨_,rfl,Jt1l4 rfl⟩ | exact ⟨_,rfl,.inl .nild⟩ | exact ⟨_,rfl,.inl .nile⟩ | exact ⟨_,rfl,Jt1l5⟩ | exact Jt1l6 rfl|exact Jt1l4 rfl|exact .inl .nild|exact .inl .nile|exact Jt1l5|exact WkB.same rfl|exact Jt5o|exact Jt5n|exact .dead _|exact .iter _ _|exact .glob _ _|refine Jt5k ?_ ?_|refine And.intro ?_ ?_)) (by simp only;omega)
   | false=>
    rw [hf,if_neg (by simp)] at hks
    (simp (maxSteps:=9^6)[hf,hil,hl2,hwi,hwj])
    have hset':List.take (i*2) C++AI q.v::AI q.l::List.drop (i*2+2) C=Jt16d ((cur.set i q).map Pair.row):=by
     rw [List.map_set,←hset];simp [spl,Pair.row]
    rw [hset']
    refine hN _ (j+1,i+1,cur.set i q) ⟨by simp only;omega,by simp only;omega,by simpa using hcl,?_,?_⟩ (by refine Wk.of ?_ ⟨WkB_k0 hg.ren,Jt5o,trivial⟩ (by simp)<;>repeat' (first|exact True.intro|exact ⟨_,rfl,Jt1l6 rfl⟩ | exact ⟨_,rfl,Jt1l4 rfl⟩ | exact ⟨_,rfl,.inl .nild⟩ | exact ⟨_,rfl,.inl .nile⟩ | exact ⟨_,rfl,Jt1l5⟩ | exact Jt1l6 rfl|exact Jt1l4 rfl|exact .inl .nild|exact .inl .nile|exact Jt1l5|exact WkB.same rfl|exact Jt5o|exact Jt5n|exact .dead _|exact .iter _ _|exact .glob _ _|refine Jt5k ?_ ?_|refine And.intro ?_ ?_)) (by simp only;omega)
    ·simp only
     rw [hks,←hct,List.take_add_one,List.getElem?_set_self (by omega),List.take_set_of_le (by omega)];rfl
    ·simp only
     rw [List.drop_set_of_lt (by omega)];exact hcd2
  ·have hj2:j=l.length:=by omega
   subst hj2
   rw [List.take_length,←hT] at hct
   have hil':i≤l.length:=by omega
   have hTl:T.length=i:=by rw [←hct];simp;omega
   (simp (maxSteps:=9^6)[hil'])
   refine Jt1z (by rfl) (by rfl) (by decide) (by omega) (by rfl) (by omega) ?_
   obtain ⟨U,hU⟩:∃ U:List Pair,U=T++List.replicate (l.length-T.length) zeroP:=⟨_,rfl⟩
   rw [←hU] at hR
   have hfin:spl (Jt16d (cur.map Pair.row)) (i*2) (Jt16d (List.replicate (l.length-i) [I 0,I 0]))=Jt16d (U.map Pair.row):=by
    have h7:(Jt16d (List.replicate (l.length-i) [I 0,I 0])).length=(l.length-i)*2:=by
     rw [Jt16l (e:=2) (fun r hr=>by rw [List.eq_of_mem_replicate hr];rfl)];simp
    rw [spl,Jt16n (e:=2) (rows:=cur.map Pair.row) (Jt16t (f:=Pair.row) fun _=>rfl),h7,List.drop_of_length_le (by omega),List.append_nil,←List.map_take,hct,hU,hTl]
    simp [Jt16d,Pair.row,zeroP]
   rw [hfin]
   (simp (maxSteps:=9^6)[hil'])
   refine hR _ _ (Jt58 _ (.hsl 1 0 2 i) [k0,.mem (Jt16d (U.map Pair.row))] rfl (by refine Wk.of ?_ ⟨WkB_k0 hg.ren,Jt5o,trivial⟩ (by simp)<;>repeat' (first|exact True.intro|exact ⟨_,rfl,Jt1l6 rfl⟩ | exact ⟨_,rfl,Jt1l4 rfl⟩ | exact ⟨_,rfl,.inl .nild⟩ | exact ⟨_,rfl,.inl .nile⟩ | exact ⟨_,rfl,Jt1l5⟩ | exact Jt1l6 rfl|exact Jt1l4 rfl|exact .inl .nild|exact .inl .nile|exact Jt1l5|exact WkB.same rfl|exact Jt5o|exact Jt5n|exact .dead _|exact .iter _ _|exact .glob _ _|refine Jt5k ?_ ?_|refine And.intro ?_ ?_)) ⟨by rw [hTl],rfl⟩)
end
section
variable {P:Program} {p:Nums}
theorem Jt1a2(A:All P p)(l:List Int)(v:Int)(h0:l.length<1000000):Jt51 P p.Yf3f [.d (intsD l),AI v] [] fun o _=>∃ n:Int,o=.ret (AI n)∧(0≤n↔v∈l):=by
 refine A.Yf3f.run rfl fun R hR=>?_
 (simp (maxSteps:=9^6)[Jtkg,intsD])
 refine Jtf (fun k:Nat=>⟨[(8,AI k),(7,AI l.length),(1,AI v),(0,.d (.sl (l.map intRow)))],[]⟩) (fun k=>k≤l.length∧v∉l.take k) (fun k=>l.length-k) 0 (by simp) (by (exact wkA)) ?_
 rintro k ⟨hk,hz⟩ N hN
 (simp (maxSteps:=9^6)[])
 ((first|refine Xc ?_ ?_|refine Xo ?_ ?_)<;>intro h2<;>try simp only [Xz,Xy] at h2)
 ·have hkl:k<l.length:=by omega
  have hb:l[k]?=some l[k]:=by simp
  have hw:=Jt1le (k:=k) (by omega)
  (simp (maxSteps:=9^6)[h2,hkl,hb,intRow])
  by_cases h3:v=l[k]
  ·have h3b:(v==l[k])=true:=by simpa using h3
   (simp (maxSteps:=9^6)[h3b])
   exact hR _ _ (Jt57 _ rfl rfl ⟨k,rfl,⟨fun _=>(by rw [h3];exact List.getElem_mem hkl),fun _=>(by omega)⟩⟩)
  ·have h3b:(v==l[k])=false:=by simpa using h3
   (simp (maxSteps:=9^6)[h3b,hw])
   refine hN _ (k+1) ⟨hkl,?_⟩ (by (exact wkA)) (by omega)
   rw [List.take_add_one,hb]
   simp only [List.mem_append,not_or,hz,not_false_eq_true,true_and,Option.toList,List.mem_singleton]
   exact h3
 ·have hk':k=l.length:=by omega
  subst hk'
  rw [List.take_length] at hz
  (simp (maxSteps:=9^6)[])
  exact hR _ _ (Jt57 _ rfl rfl ⟨-1,rfl,⟨fun h=>(by omega),fun h=>absurd h hz⟩⟩)
theorem Jt199(A:All P p)(l:List Int)(v:Int)(h0:l.length<1000000):Jt51 P p.Yf39 [.d (intsD l),AI v] [] fun o _=>o=.ret (AB (decide (v∈l))):=by
 refine A.Yf39.run rfl fun R hR=>?_
 (simp (maxSteps:=9^6)[Jtkd])
 refine .inr ⟨rfl,.inl ⟨_,rfl,(Jt1a2 A l v h0).mono ?_⟩⟩
 rintro o _ ⟨n,rfl,hn⟩
 refine ⟨rfl,?_⟩
 by_cases hv:v∈l
 ·have h1:=hn.2 hv
  (simp (maxSteps:=9^6)[h1])
  (first|exact hR _ _ FrA|exact hR _ _ FnA|exact hR _ _ (Xf (hq:=by simp [AV.erase,AV.unview,hv];done)))
 ·have h1:¬ 0≤n:=fun h=>hv (hn.1 h)
  (simp (maxSteps:=9^6)[h1])
  (first|exact hR _ _ FrA|exact hR _ _ FnA|exact hR _ _ (Xf (hq:=by simp [AV.erase,AV.unview,hv];done)))
theorem Jt15d(A:All P p)(q0:Pair):DelOk P p.Yf37 (.mem [AI q0.v,AI q0.l]) (fun q=>decide (q=q0)) where
 ok:=A.Yf37.ok
 ren:=fun ρ=>rfl
 run:=fun q=>by
  refine A.Yf37.run rfl fun R hR=>?_
  (simp (maxSteps:=9^6)[Jtky,Pair.av,Jtvh])
  refine hR _ _ (Jt58 _ (AB (decide (q=q0))) [.mem [AI q0.v,AI q0.l]] rfl (by (exact wkA)) ⟨rfl,rfl⟩)
theorem Jto0(A:All P p)(l:List Int)(h0:l.length<1000000):DelOk P p.Yf38 (.mem [.d (intsD l)]) (fun q=>!decide (q.v∈l)) where
 ok:=A.Yf38.ok
 ren:=fun ρ=>rfl
 run:=fun q=>by
  refine A.Yf38.run rfl fun R hR=>?_
  have hc:=Jt199 A l q.v h0
  (simp (maxSteps:=9^6)[Jtku,Pair.av])
  (refine Jt17 hc (by rfl) (by rfl) ?_)
  (simp (maxSteps:=9^6)[])
  refine hR _ _ (Jt58 _ (AB (!decide (q.v∈l))) [.mem [.d (intsD l)]] rfl (by (exact wkA)) ⟨rfl,rfl⟩)
theorem Jt1gn(A:All P p)(c:Cert)(h0:c.W.length≤1000000)(h1:wTotal c.W≤1000000):Jt51 P p.Yf30 [c.av] [] fun o _=>o=.ret (AI (wTotal c.W)):=by
 obtain ⟨wR,hwR⟩:∃ x,x=c.W.map fun l=>[pairsD l]:=⟨_,rfl⟩
 have hwl:wR.length=c.W.length:=by rw [hwR];simp
 simp only [Cert.av,witD,←hwR]
 refine A.Yf30.run rfl fun R hR=>?_
 (simp (maxSteps:=9^6)[Jtkw])
 refine Jtf (fun k:Nat=>⟨[(9,AI k),(8,AI c.W.length),(7,.d (.sl wR)),(3,AI (wTotal (c.W.take k)))],[]⟩) (fun k=>k≤c.W.length) (fun k=>c.W.length-k) 0 (by simp) (by simp only [hwl,List.take_zero,wTotal,List.map_nil,List.sum_nil];(exact wkA)) ?_
 rintro k hk N hN
 (simp (maxSteps:=9^6)[])
 ((first|refine Xc ?_ ?_|refine Xo ?_ ?_)<;>intro h2<;>try simp only [Xz,Xy] at h2)
 ·have hkl:k<c.W.length:=by omega
  obtain ⟨l,hl⟩:∃ l,c.W[k]?=some l:=⟨_,lgE hkl⟩
  have hwk:wR[k]?=some [pairsD l]:=by rw [hwR,lgM,hl];rfl
  have hs:=Jt1fy hl
  have hle:=Jt1fw c.W (k+1)
  have hw:=Jt1le (k:=k) (by omega)
  have hw2:=Jt1ld (a:=wTotal (c.W.take k)) (b:=l.length) (by omega)
  have hkr:k<wR.length:=by omega
  (simp (maxSteps:=9^6)[h2,hwk,pairsD])
  (simp (maxSteps:=9^6)[hw,hw2])
  refine hN _ (k+1) hkl (by simp only [hs];(exact wkA)) (by omega)
 ·have hk':k=c.W.length:=by omega
  subst hk'
  (simp (maxSteps:=9^6)[])
  (first|exact hR _ _ FrA|exact hR _ _ FnA)
theorem Jt14p(A:All P p)(c:Cert)(h0:c.W.length≤1000000)(h1:wTotal c.W≤1000000):Jt51 P p.Yf31 [c.av] [] fun o _=>o=.ret (AI (wTotal c.W)):=by
 obtain ⟨wR,hwR⟩:∃ x,x=c.W.map fun l=>[pairsD l]:=⟨_,rfl⟩
 have hwl:wR.length=c.W.length:=by rw [hwR];simp
 simp only [Cert.av,witD,←hwR]
 refine A.Yf31.run rfl fun R hR=>?_
 (simp (maxSteps:=9^6)[Jtk6])
 refine Jtf (fun k:Nat=>⟨[(4,AI k),(3,AI (wTotal (c.W.take k))),(1,.ptr 0 0)],[.mem [AI c.S.args,AI c.S.regs,.d (.sl (c.S.blocks.map Block.row)),AI c.T.args,AI c.T.regs,AI c.T.slots,.d (.sl (c.T.blocks.map MBlock.row)),.d (.sl wR)]]⟩) (fun k=>k≤c.W.length) (fun k=>c.W.length-k) 0 (by simp) (by simp only [List.take_zero,wTotal,List.map_nil,List.sum_nil];(exact wkA)) ?_
 rintro k hk N hN
 (simp (maxSteps:=9^6)[hwl])
 ((first|refine Xc ?_ ?_|refine Xo ?_ ?_)<;>intro h2<;>try simp only [Xz,Xy] at h2)
 ·have hkl:k<c.W.length:=by omega
  obtain ⟨l,hl⟩:∃ l,c.W[k]?=some l:=⟨_,lgE hkl⟩
  have hwk:wR[k]?=some [pairsD l]:=by rw [hwR,lgM,hl];rfl
  have hs:=Jt1fy hl
  have hle:=Jt1fw c.W (k+1)
  have hw:=Jt1le (k:=k) (by omega)
  have hw2:=Jt1ld (a:=wTotal (c.W.take k)) (b:=l.length) (by omega)
  (simp (maxSteps:=9^6)[h2,hwk,pairsD])
  (simp (maxSteps:=9^6)[hw,hw2])
  refine hN _ (k+1) hkl (by simp only [hs];(exact wkA)) (by omega)
 ·have hk':k=c.W.length:=by omega
  subst hk'
  (simp (maxSteps:=9^6)[])
  (first|exact hR _ _ FrA|exact hR _ _ FnA)
end
structure VL where (e:Bool) (M Z:List Pair)
def VL.blk(v:VL):Blk:=.mem (Jt16d ((v.M++v.Z).map Pair.row))
def VL.cell(B q:Nat)(v:VL):AV:=if v.e=true then .d (.sl []) else .hsl (B+q) 0 2 v.M.length
def cellsV(B:Nat):Nat→List VL→List AV
 | _,[]=>[]
 | q,v::V=>v.cell B q::cellsV B (if v.e=true then q else q+1) V
def blksV:List VL→List Blk
 | []=>[]
 | v::V=>if v.e=true then blksV V else v.blk::blksV V
def posV:List VL→Nat→Nat
 | [],_=>0
 | _::_,0=>0
 | v::V,i+1=>(if v.e=true then 0 else 1)+posV V i
theorem Jtao(B:Nat)(V:List VL):∀ q,(cellsV B q V).length=V.length:=by
 induction V with
 | nil=>intro q;rfl
 | cons v V ih=>intro q;simp [cellsV,ih]
theorem Jtan{B:Nat}{v:VL}:∀ {V:List VL} {q k:Nat},V[k]?=some v→(cellsV B q V)[k]?=some (v.cell B (q+posV V k)):=by
 intro V
 induction V with
 | nil=>intro q k h;simp at h
 | cons w V ih=>
  intro q k h
  cases k with
  | zero=>simp at h;subst h;simp [cellsV,posV]
  | succ k=>
   simp only [List.getElem?_cons_succ] at h
   simp only [cellsV,posV,List.getElem?_cons_succ]
   rw [ih h]
   split<;>simp [Nat.add_assoc]
theorem Jt81{v:VL}:∀ {V:List VL} {k:Nat},V[k]?=some v→v.e=false→(blksV V)[posV V k]?=some v.blk:=by
 intro V
 induction V with
 | nil=>intro k h;simp at h
 | cons w V ih=>
  intro k h he
  cases k with
  | zero=>simp at h;subst h;simp [blksV,posV,he]
  | succ k=>
   simp only [List.getElem?_cons_succ] at h
   simp only [blksV,posV]
   split
   ·simpa using ih h he
   ·rw [Nat.add_comm,List.getElem?_cons_succ];exact ih h he
theorem Jtaq{B:Nat}{v v':VL}(he:v'.e=v.e):∀ {V:List VL} {q k:Nat},V[k]?=some v→(cellsV B q V).set k (v'.cell B (q+posV V k))=cellsV B q (V.set k v'):=by
 intro V
 induction V with
 | nil=>intro q k h;simp at h
 | cons w V ih=>
  intro q k h
  cases k with
  | zero=>simp at h;subst h;simp [cellsV,posV,he]
  | succ k=>
   simp only [List.getElem?_cons_succ] at h
   simp only [cellsV,posV,List.set_cons_succ]
   rw [←ih h]
   split<;>simp [Nat.add_assoc]
theorem Jt83{v v':VL}(h0:v.e=false)(he:v'.e=false):∀ {V:List VL} {k:Nat},V[k]?=some v→(blksV V).set (posV V k) v'.blk=blksV (V.set k v'):=by
 intro V
 induction V with
 | nil=>intro k h;simp at h
 | cons w V ih=>
  intro k h
  cases k with
  | zero=>simp at h;subst h;simp [blksV,posV,he,h0]
  | succ k=>
   simp only [List.getElem?_cons_succ] at h
   simp only [blksV,posV,List.set_cons_succ]
   split
   ·simpa using ih h
   ·rw [Nat.add_comm,List.set_cons_succ,ih h]
theorem Jtar(B:Nat)(v:VL):∀ (V:List VL) (q:Nat),cellsV B q (V++[v])=cellsV B q V++[v.cell B (q+(blksV V).length)]:=by
 intro V
 induction V with
 | nil=>intro q;rfl
 | cons w V ih=>
  intro q
  simp only [List.cons_append,cellsV,blksV,ih]
  split<;>simp [Nat.add_assoc,Nat.add_comm 1]
theorem Jt85(v:VL):∀ (V:List VL),blksV (V++[v])=blksV V++if v.e=true then [] else [v.blk]:=by
 intro V
 induction V with
 | nil=>simp [blksV]
 | cons w V ih=>simp only [List.cons_append,blksV,ih];split<;>simp
theorem Jtxz{v:VL}{V:List VL}{k:Nat}(h:V[k]?=some v) (he:v.e=false):posV V k<(blksV V).length:=(lgS.1 (Jt81 h he)).1
theorem Jt16m(ρ:Nat→Option Nat)(rows:List (List D)):(Blk.mem (Jt16d rows)).ren ρ=some (.mem (Jt16d rows)):=by
 have h1:renL ρ (Jt16d rows)=some (Jt16d rows):=renL_d _
 simp only [Blk.ren,h1]
theorem Jt82(ρ:Nat→Option Nat)(V:List VL):renB ρ (blksV V)=some (blksV V):=by
 induction V with
 | nil=>rfl
 | cons v V ih=>
  simp only [blksV]
  split
  ·exact ih
  ·simp only [renB,ih,VL.blk,Jt16m]
theorem Jtap{B B' n:Nat}{ρ:Nat→Option Nat}:∀ (V:List VL) (q:Nat),q+(blksV V).length≤n→(∀ j,j<n→ρ (B+j)=some (B'+j))→renL ρ (cellsV B q V)=some (cellsV B' q V):=by
 intro V
 induction V with
 | nil=>intro q _ _;rfl
 | cons v V ih=>
  intro q hn hρ
  simp only [cellsV,blksV] at hn ⊢
  by_cases he:v.e=true
  ·simp only [he,if_true] at hn ⊢
   simp only [renL,VL.cell,he,if_true,AV.ren,ih q hn hρ]
  ·simp only [he] at hn ⊢
   simp only [List.length_cons,if_false,Bool.false_eq_true] at hn ⊢
   simp only [renL,VL.cell,he,if_false,Bool.false_eq_true,AV.ren,hρ q (by omega),ih (q+1) (by omega) hρ]
theorem Jt5t{H:List Blk}{n:Nat}(V:List VL):WkHs H n (blksV V) (blksV V):=by
 induction V with
 | nil=>trivial
 | cons v V ih=>
  simp only [blksV]
  split
  ·exact ih
  ·exact ⟨Jt5o,ih⟩
theorem Jt5i{H:List Blk}{B n:Nat}(hB:n≤B):∀ {V:List VL} {q:Nat},(∀ v∈V,v.e=true→v.M=[])→(∀ j k,(blksV V)[j]?=some k→H[B+(q+j)]?=some k)→WkB H n (.mem (cellsV B q V)) (.mem (Jt16d (V.map fun v=>[pairsD v.M]))):=by
 intro V
 induction V with
 | nil=>intro q _ _;exact Jt5n
 | cons v V ih=>
  intro q hv hH
  have hr:Jt16d ((v::V).map fun v=>[pairsD v.M])=.d (pairsD v.M)::Jt16d (V.map fun v=>[pairsD v.M]):=by simp [Jt16d]
  rw [hr]
  simp only [cellsV]
  by_cases he:v.e=true
  ·have hM:=hv v (by simp) he
   simp only [he,if_true,VL.cell,hM]
   refine Jt5k (Jt1l6 rfl) (ih (fun x hx=>hv x (by simp [hx])) fun j k hj=>hH j k ?_)
   simp only [blksV,he,if_true];exact hj
  ·simp only [he,VL.cell,Bool.false_eq_true,if_false]
   have h0:=hH 0 v.blk (by simp [blksV,he])
   refine Jt5k (.inl (.hsl (B+q) 0 2 v.M.length (Jt16d ((v.M++v.Z).map Pair.row)) (v.M.map Pair.row) (by rw [Nat.add_zero] at h0;exact h0) (by omega) ?_ (by simp) (Jt16t fun _=>rfl))) (ih (fun x hx=>hv x (by simp [hx])) fun j k hj=>?_)
   ·rw [List.drop_zero,Jt16n (e:=2) (Jt16t fun _=>rfl),List.map_append,List.take_left' (by simp)];rfl
   ·have:=hH (j+1) k (by simp only [blksV,he,Bool.false_eq_true,if_false,List.getElem?_cons_succ];exact hj)
    rw [show B+(q+1+j)=B+(q+(j+1)) by omega];exact this
theorem Jt51.freeze{P:Program}{f:Nat}{args:List AV}{x y:AV}{Hc:List Blk}(h:Jt51 P f args [] fun o H'=>o=.ret x∧H'=Hc) (hw:WkV Hc 0 x y):Jt51 P f args [] fun o H'=>o=.ret y∧H'=[]:=by
 intro g vs w hvs hs
 refine (h g vs w hvs hs).mono ?_
 rintro e' w' ⟨o,H',g',v,⟨rfl,rfl⟩,he,hsim,htr,hφ,hlen,hmine⟩
 have hwk:Wk 0 ⟨[(0,x)],H'⟩ ⟨[(0,y)],[]⟩:=Wk.of ⟨⟨x,rfl,.inl hw⟩,trivial⟩ (by simp [WkHs]) (Nat.le_refl _)
 obtain ⟨h1,h2,h3,h4⟩:=hsim.weak hwk
 exact ⟨.ret y,[],_,v,⟨rfl,rfl⟩,he,h1,htr.trans h2 hmine,fun b r hb=>absurd hb (by simp),Nat.le_refl _,fun r hr=>hmine r (h3 r hr)⟩
theorem Jti{P:Program}{m:Nat}{Q:AExit→ASt→Prop}{st:ASt}{S:Type}(F:S→ASt)(Inv:S→Prop){r b:IC}(h1:∀ N:ASt→Prop,(∀ st' s,Inv s→Wk m st' (F s)→N st')→AW P m r (AExit.then N Q) st) (h2:∀ s,Inv s→AW P m b Q (F s)) :
  AW P m (.seq (.seq r .cut) b) Q st:=by
 show AW P m r (AExit.then (AW P m .cut (AExit.then (AW P m b Q) Q)) (AExit.then (AW P m b Q) Q)) st
 refine Jtj r ?_ (h1 (fun st'=>∃ s,Inv s∧Wk m st' (F s)) fun st' s h1 h2=>⟨s,h1,h2⟩)
 intro e st' h
 cases e with
 | normal=>obtain ⟨s,hs,hw⟩:=h;exact .inr ⟨F s,hw,.inl (h2 s hs)⟩
 | exit i=>exact h
 | ret=>exact h
 | panic x=>exact h
theorem Jth{P:Program}{m:Nat}{Q:AExit→ASt→Prop}{st:ASt}(S2 S2' S3:ASt)(i j:Nat){r b:IC}(h1:∀ N:ASt→Prop,(∀ st',Wk m st' S2→N st')→(∀ st',Wk m st' S2'→N st')→AW P m r (AExit.then N Q) st) (hm:Mv m i j S2' S3) (hw:Wk m S3 S2)
  (h2:AW P m b Q S2):AW P m (.seq (.seq r .cut) b) Q st:=by
 show AW P m r (AExit.then (AW P m .cut (AExit.then (AW P m b Q) Q)) (AExit.then (AW P m b Q) Q)) st
 refine Jtj r ?_ (h1 (fun st'=>Wk m st' S2∨Wk m st' S2') (fun st' h=>.inl h) fun st' h=>.inr h)
 intro e st' h
 cases e with
 | normal=>
  rcases h with h | h
  ·exact .inr ⟨S2,h,.inl h2⟩
  ·exact .inr ⟨S2',h,.inr ⟨i,j,S3,S2,hm,hw,h2⟩⟩
 | exit i=>exact h
 | ret=>exact h
 | panic x=>exact h
theorem get4{a b c d:Blk}{t:List Blk}{j:Nat}:(a::b::c::d::t)[j+4]?=t[j]?:=rfl
theorem set4{a b c d x:Blk}{t:List Blk}{j:Nat}:(a::b::c::d::t).set (j+4) x=a::b::c::d::t.set j x:=rfl
section
variable {P:Program} {p:Nums}
theorem Jt18h(A:All P p)(l:List Mach)(h0:l.length≤1000000000):Jt51 P p.Yf3d [.d (.sl (l.map Mach.row))] [] fun o _=>o=.ret (.d (.sl (l.map Mach.row))):=by
 refine A.Yf3d.run rfl fun R hR=>?_
 (simp (maxSteps:=9^6)[Jtka])
 refine Jt29 (by rfl) (fun h=>?_) ?_
 ·(simp (maxSteps:=9^6)[])
  have:l=[]:=by simpa using h
  subst this
  exact hR _ _ (Jt59 _ (.d (.sl [])) rfl (by (exact wkvA)) rfl)
 ·(simp (maxSteps:=9^6)[])
  refine Jt1n (by rfl) (by rfl) (Jt16t fun _=>rfl) (by decide) (by simp;omega) (by simp;omega) (fun hn=>?_) fun hn=>?_
  ·(simp (maxSteps:=9^6)[])
   have:l=[]:=by simpa using hn
   subst this
   exact hR _ _ (Jt59 _ (.d (.sl [])) rfl (by (exact wkvA)) rfl)
  ·(simp (maxSteps:=9^6)[])
   exact hR _ _ (Jt59 _ (.d (.sl (l.map Mach.row))) rfl (by (exact wkvA)) rfl)
theorem Jt188(A:All P p):Jt51 P p.Yf3b [.d (.sl [])] [] fun o H'=>o=.ret (.d (.sl []))∧H'=[]:=by
 refine A.Yf3b.run rfl fun R hR=>?_
 (simp (maxSteps:=9^6)[Jtk7])
 refine Jt29 (by rfl) (fun _=>?_) ?_
 ·(simp (maxSteps:=9^6)[])
  exact hR _ _ (Jt59 _ _ rfl (by (exact wkvA)) ⟨rfl,rfl⟩)
 ·(simp (maxSteps:=9^6)[])
  refine Jt1n (by rfl) (by rfl) (by simp) (by decide) (by simp) (by simp) (fun hn=>?_) fun hn=>absurd rfl hn
  (simp (maxSteps:=9^6)[])
  exact hR _ _ (Jt59 _ _ rfl (by (exact wkvA)) ⟨rfl,rfl⟩)
theorem Jt187(A:All P p)(l:List Block)(hl:l≠[]) (h0:l.length<1000000):Jt51 P p.Yf3b [.d (.sl (l.map Block.row))] [] fun o H'=>o=.ret (.hsl 0 0 5 l.length)∧H'=[.mem (Jt16d (l.map Block.row))]:=by
 refine A.Yf3b.run rfl fun R hR=>?_
 (simp (maxSteps:=9^6)[Jtk7])
 refine Jt29 (by rfl) (fun h=>absurd (by simpa using h) hl) ?_
 (simp (maxSteps:=9^6)[])
 refine Jt1l (.inl (by rfl)) (by rfl) (Jt16t fun _=>rfl) (by decide) (by simp;omega) (by simp;omega) (by simpa using hl) ?_
 (simp (maxSteps:=9^6)[])
 exact hR _ _ (Jt58 _ _ _ rfl (by (exact wkA)) ⟨by simp,rfl⟩)
theorem Jt18e(A:All P p):Jt51 P p.Yf3c [.d (.sl [])] [] fun o H'=>o=.ret (.d (.sl []))∧H'=[]:=by
 refine A.Yf3c.run rfl fun R hR=>?_
 (simp (maxSteps:=9^6)[Jtk9])
 refine Jt29 (by rfl) (fun _=>?_) ?_
 ·(simp (maxSteps:=9^6)[])
  exact hR _ _ (Jt59 _ _ rfl (by (exact wkvA)) ⟨rfl,rfl⟩)
 ·(simp (maxSteps:=9^6)[])
  refine Jt1n (by rfl) (by rfl) (by simp) (by decide) (by simp) (by simp) (fun hn=>?_) fun hn=>absurd rfl hn
  (simp (maxSteps:=9^6)[])
  exact hR _ _ (Jt59 _ _ rfl (by (exact wkvA)) ⟨rfl,rfl⟩)
theorem Jt18d(A:All P p)(l:List MBlock)(hl:l≠[]) (h0:l.length<1000000):Jt51 P p.Yf3c [.d (.sl (l.map MBlock.row))] [] fun o H'=>o=.ret (.hsl 0 0 5 l.length)∧H'=[.mem (Jt16d (l.map MBlock.row))]:=by
 refine A.Yf3c.run rfl fun R hR=>?_
 (simp (maxSteps:=9^6)[Jtk9])
 refine Jt29 (by rfl) (fun h=>absurd (by simpa using h) hl) ?_
 (simp (maxSteps:=9^6)[])
 refine Jt1l (.inl (by rfl)) (by rfl) (Jt16t fun _=>rfl) (by decide) (by simp;omega) (by simp;omega) (by simpa using hl) ?_
 (simp (maxSteps:=9^6)[])
 exact hR _ _ (Jt58 _ _ _ rfl (by (exact wkA)) ⟨by simp,rfl⟩)
end
end Go.AE
set_option maxRecDepth 8000
namespace Go.AE
open Go
def vl0 (W:List (List Pair)):List VL:=W.map fun l=>⟨l.isEmpty,l,[]⟩
theorem Jt1ft {W:List (List Pair)} {k:Nat} {l:List Pair} (h:W[k]?=some l):(vl0 W)[k]?=some ⟨l.isEmpty,l,[]⟩:=by simp [vl0,h]
def midW (W:List (List Pair)) (k:Nat):List AV:=cellsV 4 0 ((vl0 W).take k)++List.replicate (W.length-k) (.d (.sl []))
theorem Jtt2 (W:List (List Pair)) {k:Nat} (hk:k≤W.length):(midW W k).length=W.length:=by
 simp only [midW,List.length_append,Jtao,List.length_take,List.length_replicate,vl0,List.length_map];omega
theorem Jtt3 {W:List (List Pair)} {k:Nat} {l:List Pair} (h:W[k]?=some l):(midW W k).set k ((⟨l.isEmpty,l,[]⟩:VL).cell 4 (blksV ((vl0 W).take k)).length)=midW W (k+1):=by
 have hlt:=(lgS.1 h).1
 have h2:(vl0 W).take (k+1)=(vl0 W).take k++[⟨l.isEmpty,l,[]⟩]:=by rw [List.take_add_one,Jt1ft h];rfl
 unfold midW
 rw [h2,Jtar,Nat.zero_add]
 obtain ⟨n,hn⟩:∃ n,W.length-k=n+1:=⟨W.length-k-1,by omega⟩
 rw [hn,show W.length-(k+1)=n by omega,List.replicate_succ]
 have hl:(cellsV 4 0 ((vl0 W).take k)).length=k:=by rw [Jtao,List.length_take];simp [vl0];omega
 rw [List.set_append_right _ _ (by omega),hl,Nat.sub_self,List.set_cons_zero]
 simp
theorem Jtt4 {W:List (List Pair)} {k:Nat} {l:List Pair} (h:W[k]?=some l):blksV ((vl0 W).take (k+1))=blksV ((vl0 W).take k)++if l=[] then [] else [.mem (Jt16d (l.map Pair.row))]:=by
 have h2:(vl0 W).take (k+1)=(vl0 W).take k++[⟨l.isEmpty,l,[]⟩]:=by rw [List.take_add_one,Jt1ft h];rfl
 rw [h2,Jt85]
 by_cases hl:l=[]
 ·subst hl;simp
 ·have:l.isEmpty=false:=by simpa using hl
  simp [this,hl,VL.blk]
def StOk (rows:List (List D)) (x:AV) (L:List (List (List D))):Prop:=(rows=[]∧x=.d (.sl []))∨(rows≠[]∧∃ q,x=.hsl (q+4) 0 5 rows.length∧L[q]?=some rows)
def rowsB (L:List (List (List D))):List Blk:=L.map fun r=>.mem (Jt16d r)
theorem Jt5z{H:List Blk}{n:Nat}(L:List (List (List D))):WkHs H n (rowsB L) (rowsB L):=by
 induction L with
 | nil=>trivial
 | cons r L ih=>exact ⟨Jt5o,ih⟩
theorem Jt16o {L:List (List (List D))} {q:Nat} {r:List (List D)} (h:L[q]?=some r):(rowsB L)[q]?=some (.mem (Jt16d r)):=by simp [rowsB,h]
theorem Jt16p {L:List (List (List D))} {q:Nat} {r:List (List D)} (h:L[q]?=some r):(rowsB L).set q (.mem (Jt16d r))=rowsB L:=by
 have:=Jt16o h
 rw [←(lgS.1 this).2];exact List.set_getElem_self _
theorem StOk.wk {rows:List (List D)} {x:AV} {L:List (List (List D))} (h:StOk rows x L) {n:Nat} (hn:n=4+L.length):x.ren (fun b=>if b<n then some b else none)=some x∧x.erase=x∧x.leaf=true:=by
 rcases h with ⟨_,rfl⟩ | ⟨_,q,rfl,hq⟩
 ·exact ⟨rfl,rfl,rfl⟩
 ·have:=(lgS.1 hq).1
  refine ⟨?_,rfl,rfl⟩
  simp only [AV.ren];rw [if_pos (by omega)]
theorem StOk.fin {rows:List (List D)} {x:AV} {L:List (List (List D))} (h:StOk rows x L) (hr:∀ r∈rows,r.length=5) {H:List Blk} (hH:∀ j k,(rowsB L)[j]?=some k→H[j+4]?=some k):WkT H 4 x (.d (.sl rows)):=by
 rcases h with ⟨rfl,rfl⟩ | ⟨_,q,rfl,hq⟩
 ·exact Jt1l6 rfl
 ·refine .inl (.hsl (q+4) 0 5 rows.length (Jt16d rows) rows (hH q _ (Jt16o hq)) (by omega) ?_ rfl hr)
  rw [List.drop_zero,←Jt16l hr,List.take_length];rfl
theorem Jtaf {rows:List (List D)} {k:Nat} {x:D} {r:List D} (hr:∀ r∈rows,r.length=5) (h:rows[k]?=some (x::r)):(Jt16d rows)[k*5]?=some (.d x)∧(Jt16d rows).take (k*5)++AV.d x::(Jt16d rows).drop (k*5+1)=Jt16d rows:=by
 have h1:rows.flatten[k*5+0]?=(rows[k]?).bind (·[0]?):=Jtg9 rows 5 hr k 0 (by omega)
 rw [h] at h1
 have h2:(Jt16d rows)[k*5]?=some (.d x):=by
  unfold Jt16d;rw [lgM];simp only [Nat.add_zero,Option.bind_some,List.getElem?_cons_zero] at h1;rw [h1];rfl
 refine ⟨h2,?_⟩
 have hlt:=(lgS.1 h2).1
 rw [←(lgS.1 h2).2,←List.drop_eq_getElem_cons hlt,List.take_append_drop]
theorem Jt5l{H:List Blk}{n:Nat}{x1 x2 x3 x4 x5 x6 x7 x8 y3 y7:AV}(h1:x1.ren (fun b=>if b<n then some b else none)=some x1) (h2:x2.ren (fun b=>if b<n then some b else none)=some x2) (h3:WkT H n x3 y3) (h4:x4.ren (fun b=>if b<n then some b else none)=some x4)
  (h5:x5.ren (fun b=>if b<n then some b else none)=some x5) (h6:x6.ren (fun b=>if b<n then some b else none)=some x6) (h7:WkT H n x7 y7) (h8:x8.ren (fun b=>if b<n then some b else none)=some x8):WkB H n (.mem [x1,x2,x3,x4,x5,x6,x7,x8]) (.mem [x1,x2,y3,x4,x5,x6,y7,x8]):=
 Jt5k (Jt1l6 h1) (Jt5k (Jt1l6 h2) (Jt5k h3 (Jt5k (Jt1l6 h4) (Jt5k (Jt1l6 h5) (Jt5k (Jt1l6 h6) (Jt5k h7 (Jt5k (Jt1l6 h8) Jt5n)))))))
theorem Jt5m{H:List Blk}{n:Nat}{W:List (List Pair)} {k:Nat} (hn:n=4+(blksV ((vl0 W).take k)).length):WkB H n (.mem (midW W k)) (.mem (midW W k)):=by
 refine .same ?_
 unfold midW
 have h1:=Jtap (B:=4) (B':=4) (n:=(blksV ((vl0 W).take k)).length) (ρ:=fun b=>if b<n then some b else none) ((vl0 W).take k) 0 (by omega) (fun j hj=>by rw [if_pos (by omega)])
 have h2:∀ m,renL (fun b=>if b<n then some b else none) (List.replicate m (AV.d (.sl [])))=some (List.replicate m (.d (.sl []))):=by
  intro m;induction m with
  | zero=>rfl
  | succ m ih=>simp [List.replicate_succ,renL,AV.ren,ih]
 have h3:∀ (ρ:Nat→Option Nat) (x x' y y':List AV),renL ρ x=some x'→renL ρ y=some y'→renL ρ (x++y)=some (x'++y'):=by
  intro ρ x
  induction x with
  | nil=>intro x' y y' hx hy;simp [renL] at hx;subst hx;exact hy
  | cons a x ih=>
   intro x' y y' hx hy
   simp only [renL] at hx
   split at hx
   ·rename_i a' x2 ha hx2
    injection hx with hx;subst hx
    simp only [List.cons_append,renL,ha,ih x2 y y' hx2 hy]
   ·cases hx
 exact h3 _ _ _ _ _ h1 (h2 _)
theorem midW_0 (W:List (List Pair)):midW W 0=Jt16d (List.replicate W.length [D.sl []]):=by
 unfold midW Jt16d
 simp [cellsV]
theorem Jtt1 (W:List (List Pair)):midW W W.length=cellsV 4 0 (vl0 W):=by
 unfold midW;rw [Nat.sub_self,List.take_of_length_le (by simp [vl0])];simp
theorem Jt17o{α:Type}{l:List α}{k:Nat}{x:α}(h:k<l.length):l.set k x=l.take k++x::l.drop (k+1):=by
 rw [List.set_eq_take_append_cons_drop,if_pos h]
theorem Jtci{l:List Block}{k:Nat}{b:Block}(h:l[k]?=some b):(l.map Block.row)[k]?=some (.sl (b.code.map Instr.row)::[I b.term.kind,I b.term.a,I b.term.to,I b.term.els]):=by rw [lgM,h];rfl
theorem Jtsj{l:List MBlock}{k:Nat}{b:MBlock}(h:l[k]?=some b):(l.map MBlock.row)[k]?=some (.sl (b.code.map Mach.row)::[I b.term.kind,I b.term.a,I b.term.to,I b.term.els]):=by rw [lgM,h];rfl
section
variable {P:Program} {p:Nums}
set_option maxHeartbeats 4000000 in
theorem clone1(A:All P p)(c:Cert)(h0:c.S.blocks.length≤100000)(h1:∀ b∈c.S.blocks,b.code.length≤1000000){sR:List (List D)} (hsR:sR=c.S.blocks.map Block.row) {a b w:Blk} {x1 x2 x4 x5 x6 sA tA y:AV} {L:List (List (List D))} (hsA:StOk sR sA L)
  (hwa:∀ H n,WkB H n a a) (hwb:∀ H n,WkB H n b b) (hww:∀ H n,WkB H n w w) (ho:∀ H,WkB H (4+L.length) (.mem [x1,x2,sA,x4,x5,x6,tA,y]) (.mem [x1,x2,sA,x4,x5,x6,tA,y])) {r:IC} {R:AExit→ASt→Prop}
  (hr:∀ n:Int,AW P 0 r R ⟨[(34,AB false),(33,AI n),(32,AI n),(3,.ptr 2 0),(2,.ptr 1 0),(1,.ptr 0 0)],a::b::.mem [x1,x2,sA,x4,x5,x6,tA,y]::w::rowsB L⟩) :
  AW P 0 (.seq (.seq (Jt1gz p) (.block 0 (.loop (Jt1h1 p)))) r) R ⟨[(3,.ptr 2 0),(2,.ptr 1 0),(1,.ptr 0 0)],a::b::.mem [x1,x2,sA,x4,x5,x6,tA,y]::w::rowsB L⟩:=by
 have hsl:sR.length=c.S.blocks.length:=by rw [hsR];simp
 have hs5:∀ r∈sR,r.length=5:=by rw [hsR];exact Jt16t fun _=>rfl
 have hrl:(rowsB L).length=L.length:=by simp [rowsB]
 rcases hsA with ⟨rfl,rfl⟩ | ⟨hne,q,rfl,hq⟩
 ·(simp (maxSteps:=9^6)[])
  refine Jtf (fun k:Unit=>⟨[(33,AI 0),(32,AI 0),(3,.ptr 2 0),(2,.ptr 1 0),(1,.ptr 0 0)],a::b::.mem [x1,x2,.d (.sl []),x4,x5,x6,tA,y]::w::rowsB L⟩) (fun k=>True) (fun k=>0) () trivial
   (by refine Wk.of ?_ ⟨hwa _ _,hwb _ _,by simp only [List.length_cons,hrl];rw [show L.length+1+1+1+1=4+L.length by omega];exact ho _,hww _ _,Jt5z L⟩ (by simp)<;>repeat' (first|exact True.intro|exact ⟨_,rfl,Jt1l6 rfl⟩ | exact ⟨_,rfl,Jt1l4 rfl⟩ | exact ⟨_,rfl,.inl .nild⟩ | exact ⟨_,rfl,.inl .nile⟩ | exact ⟨_,rfl,Jt1l5⟩ | exact Jt1l6 rfl|exact Jt1l4 rfl|exact .inl .nild|exact .inl .nile|exact Jt1l5|exact WkB.same rfl|exact Jt5o|exact Jt5n|exact .dead _|exact .iter _ _|exact .glob _ _|refine Jt5k ?_ ?_|refine And.intro ?_ ?_)) ?_
  rintro k hk N hN
  (simp (maxSteps:=9^6)[])
  exact hr 0
 ·simp only [hsl] at ho hr ⊢
  (simp (maxSteps:=9^6)[])
  refine Jtf (fun k:Nat=>⟨[(33,AI k),(32,AI c.S.blocks.length),(3,.ptr 2 0),(2,.ptr 1 0),(1,.ptr 0 0)],a::b::.mem [x1,x2,.hsl (q+4) 0 5 c.S.blocks.length,x4,x5,x6,tA,y]::w::rowsB L⟩) (fun k=>k≤c.S.blocks.length) (fun k=>c.S.blocks.length-k) 0 (by simp)
   (by refine Wk.of ?_ ⟨hwa _ _,hwb _ _,by simp only [List.length_cons,hrl];rw [show L.length+1+1+1+1=4+L.length by omega];exact ho _,hww _ _,Jt5z L⟩ (by simp)<;>repeat' (first|exact True.intro|exact ⟨_,rfl,Jt1l6 rfl⟩ | exact ⟨_,rfl,Jt1l4 rfl⟩ | exact ⟨_,rfl,.inl .nild⟩ | exact ⟨_,rfl,.inl .nile⟩ | exact ⟨_,rfl,Jt1l5⟩ | exact Jt1l6 rfl|exact Jt1l4 rfl|exact .inl .nild|exact .inl .nile|exact Jt1l5|exact WkB.same rfl|exact Jt5o|exact Jt5n|exact .dead _|exact .iter _ _|exact .glob _ _|refine Jt5k ?_ ?_|refine And.intro ?_ ?_)) ?_
  rintro k hk N hN
  (simp (maxSteps:=9^6)[])
  ((first|refine Xc ?_ ?_|refine Xo ?_ ?_)<;>intro h2<;>try simp only [Xz,Xy] at h2)
  ·have hkl:k<c.S.blocks.length:=by omega
   have hw:=Jt1le (k:=k) (by omega)
   obtain ⟨bk,hbk⟩:∃ b,c.S.blocks[k]?=some b:=⟨_,lgE hkl⟩
   obtain ⟨e1,e2⟩:=Jtaf hs5 (by rw [hsR];exact Jtci hbk)
   have hcl:=Jt18n A bk.code (by have:=h1 bk (lmG hbk);omega)
   have hg:=Jt16o hq
   have hst:=Jt16p hq
   have hlc:=Jt16l hs5
   have hl1:k*5<(Jt16d sR).length:=by omega
   have hl2:k*5+1≤(Jt16d sR).length:=by omega
   obtain ⟨C,hC⟩:∃ C,C=Jt16d sR:=⟨_,rfl⟩
   rw [←hC] at hg hst e1 e2 hl1 hl2
   have hfin:=fun st' h=>hN st' (k+1) hkl h (by omega)
   clear hN
   (simp (maxSteps:=9^6)[h2])
   repeat' (first | (with_reducible refine And.intro ?_ ?_) | (refine Jt17 hcl (by rfl) (by rfl) ?_) | (refine Jte ?_) | (simp (maxSteps:=9^6)[hkl,get4,set4,hg,hst,e1,e2,hl2,hw]))
   all_goals (refine hfin _ ?_;refine Wk.of ?_ ⟨hwa _ _,hwb _ _,by simp only [List.length_cons,hrl];rw [show L.length+1+1+1+1=4+L.length by omega];exact ho _,hww _ _,Jt5z L⟩ (by simp)<;>repeat' (first|exact True.intro|exact ⟨_,rfl,Jt1l6 rfl⟩ | exact ⟨_,rfl,Jt1l4 rfl⟩ | exact ⟨_,rfl,.inl .nild⟩ | exact ⟨_,rfl,.inl .nile⟩ | exact ⟨_,rfl,Jt1l5⟩ | exact Jt1l6 rfl|exact Jt1l4 rfl|exact .inl .nild|exact .inl .nile|exact Jt1l5|exact WkB.same rfl|exact Jt5o|exact Jt5n|exact .dead _|exact .iter _ _|exact .glob _ _|refine Jt5k ?_ ?_|refine And.intro ?_ ?_))
  ·have hk':k=c.S.blocks.length:=by omega
   subst hk'
   (simp (maxSteps:=9^6)[])
   exact hr _
set_option maxHeartbeats 4000000 in
theorem clone2(A:All P p)(c:Cert)(h0:c.T.blocks.length≤100000)(h1:∀ b∈c.T.blocks,b.code.length≤1000000){tR:List (List D)} (htR:tR=c.T.blocks.map MBlock.row) {a b w:Blk} {x1 x2 x4 x5 x6 sA tA y:AV} {L:List (List (List D))} (htA:StOk tR tA L)
  (hwa:∀ H n,WkB H n a a) (hwb:∀ H n,WkB H n b b) (hww:∀ H n,WkB H n w w) (ho:∀ H,WkB H (4+L.length) (.mem [x1,x2,sA,x4,x5,x6,tA,y]) (.mem [x1,x2,sA,x4,x5,x6,tA,y])) {n0:Int} {r:IC} {R:AExit→ASt→Prop}
  (hr:∀ n:Int,AW P 0 r R ⟨[(56,AB false),(55,AI n),(54,AI n),(3,.ptr 2 0),(2,.ptr 1 0),(1,.ptr 0 0)],a::b::.mem [x1,x2,sA,x4,x5,x6,tA,y]::w::rowsB L⟩) :
  AW P 0 (.seq (.seq (Jt1h2 p) (.block 2 (.loop (Jt1h4 p)))) r) R ⟨[(34,AB false),(33,AI n0),(32,AI n0),(3,.ptr 2 0),(2,.ptr 1 0),(1,.ptr 0 0)],a::b::.mem [x1,x2,sA,x4,x5,x6,tA,y]::w::rowsB L⟩:=by
 have htl:tR.length=c.T.blocks.length:=by rw [htR];simp
 have ht5:∀ r∈tR,r.length=5:=by rw [htR];exact Jt16t fun _=>rfl
 have hrl:(rowsB L).length=L.length:=by simp [rowsB]
 rcases htA with ⟨rfl,rfl⟩ | ⟨hne,q,rfl,hq⟩
 ·(simp (maxSteps:=9^6)[])
  refine Jtf (fun k:Unit=>⟨[(55,AI 0),(54,AI 0),(3,.ptr 2 0),(2,.ptr 1 0),(1,.ptr 0 0)],a::b::.mem [x1,x2,sA,x4,x5,x6,.d (.sl []),y]::w::rowsB L⟩) (fun k=>True) (fun k=>0) () trivial
   (by refine Wk.of ?_ ⟨hwa _ _,hwb _ _,by simp only [List.length_cons,hrl];rw [show L.length+1+1+1+1=4+L.length by omega];exact ho _,hww _ _,Jt5z L⟩ (by simp)<;>repeat' (first|exact True.intro|exact ⟨_,rfl,Jt1l6 rfl⟩ | exact ⟨_,rfl,Jt1l4 rfl⟩ | exact ⟨_,rfl,.inl .nild⟩ | exact ⟨_,rfl,.inl .nile⟩ | exact ⟨_,rfl,Jt1l5⟩ | exact Jt1l6 rfl|exact Jt1l4 rfl|exact .inl .nild|exact .inl .nile|exact Jt1l5|exact WkB.same rfl|exact Jt5o|exact Jt5n|exact .dead _|exact .iter _ _|exact .glob _ _|refine Jt5k ?_ ?_|refine And.intro ?_ ?_)) ?_
  rintro k hk N hN
  (simp (maxSteps:=9^6)[])
  exact hr 0
 ·simp only [htl] at ho hr ⊢
  (simp (maxSteps:=9^6)[])
  refine Jtf (fun k:Nat=>⟨[(55,AI k),(54,AI c.T.blocks.length),(3,.ptr 2 0),(2,.ptr 1 0),(1,.ptr 0 0)],a::b::.mem [x1,x2,sA,x4,x5,x6,.hsl (q+4) 0 5 c.T.blocks.length,y]::w::rowsB L⟩) (fun k=>k≤c.T.blocks.length) (fun k=>c.T.blocks.length-k) 0 (by simp)
   (by refine Wk.of ?_ ⟨hwa _ _,hwb _ _,by simp only [List.length_cons,hrl];rw [show L.length+1+1+1+1=4+L.length by omega];exact ho _,hww _ _,Jt5z L⟩ (by simp)<;>repeat' (first|exact True.intro|exact ⟨_,rfl,Jt1l6 rfl⟩ | exact ⟨_,rfl,Jt1l4 rfl⟩ | exact ⟨_,rfl,.inl .nild⟩ | exact ⟨_,rfl,.inl .nile⟩ | exact ⟨_,rfl,Jt1l5⟩ | exact Jt1l6 rfl|exact Jt1l4 rfl|exact .inl .nild|exact .inl .nile|exact Jt1l5|exact WkB.same rfl|exact Jt5o|exact Jt5n|exact .dead _|exact .iter _ _|exact .glob _ _|refine Jt5k ?_ ?_|refine And.intro ?_ ?_)) ?_
  rintro k hk N hN
  (simp (maxSteps:=9^6)[])
  ((first|refine Xc ?_ ?_|refine Xo ?_ ?_)<;>intro h2<;>try simp only [Xz,Xy] at h2)
  ·have hkl:k<c.T.blocks.length:=by omega
   have hw:=Jt1le (k:=k) (by omega)
   obtain ⟨bk,hbk⟩:∃ b,c.T.blocks[k]?=some b:=⟨_,lgE hkl⟩
   obtain ⟨e1,e2⟩:=Jtaf ht5 (by rw [htR];exact Jtsj hbk)
   have hcl:=Jt18h A bk.code (by have:=h1 bk (lmG hbk);omega)
   have hg:=Jt16o hq
   have hst:=Jt16p hq
   have hlc:=Jt16l ht5
   have hl1:k*5<(Jt16d tR).length:=by omega
   have hl2:k*5+1≤(Jt16d tR).length:=by omega
   obtain ⟨C,hC⟩:∃ C,C=Jt16d tR:=⟨_,rfl⟩
   rw [←hC] at hg hst e1 e2 hl1 hl2
   have hfin:=fun st' h=>hN st' (k+1) hkl h (by omega)
   clear hN
   (simp (maxSteps:=9^6)[h2])
   repeat' (first | (with_reducible refine And.intro ?_ ?_) | (refine Jt17 hcl (by rfl) (by rfl) ?_) | (refine Jte ?_) | (simp (maxSteps:=9^6)[hkl,get4,set4,hg,hst,e1,e2,hl2,hw]))
   all_goals (refine hfin _ ?_;refine Wk.of ?_ ⟨hwa _ _,hwb _ _,by simp only [List.length_cons,hrl];rw [show L.length+1+1+1+1=4+L.length by omega];exact ho _,hww _ _,Jt5z L⟩ (by simp)<;>repeat' (first|exact True.intro|exact ⟨_,rfl,Jt1l6 rfl⟩ | exact ⟨_,rfl,Jt1l4 rfl⟩ | exact ⟨_,rfl,.inl .nild⟩ | exact ⟨_,rfl,.inl .nile⟩ | exact ⟨_,rfl,Jt1l5⟩ | exact Jt1l6 rfl|exact Jt1l4 rfl|exact .inl .nild|exact .inl .nile|exact Jt1l5|exact WkB.same rfl|exact Jt5o|exact Jt5n|exact .dead _|exact .iter _ _|exact .glob _ _|refine Jt5k ?_ ?_|refine And.intro ?_ ?_))
  ·have hk':k=c.T.blocks.length:=by omega
   subst hk'
   (simp (maxSteps:=9^6)[])
   exact hr _
set_option maxHeartbeats 4000000 in
theorem clone3(A:All P p)(c:Cert)(h4:c.W.length≤100000)(h5:∀ l∈c.W,l.length<1000000){sR tR wR:List (List D)} (hwR:wR=c.W.map fun l=>[pairsD l]) (hs5:∀ r∈sR,r.length=5) (ht5:∀ r∈tR,r.length=5) {sA tA:AV} {L:List (List (List D))} (hsA:StOk sR sA L) (htA:StOk tR tA L) {R:AExit→ASt→Prop} {n0:Int}
  (hR:∀ e st,Fin [.cell 2 (some 8)] 0 (fun o H'=>o=.ret (.agg [AI c.S.args,AI c.S.regs,.d (.sl sR),AI c.T.args,AI c.T.regs,AI c.T.slots,.d (.sl tR),.hsl 3 0 1 c.W.length])∧
   H'=.dead::.dead::.dead::.mem (cellsV 4 0 (vl0 c.W))::blksV (vl0 c.W)) e st→R e st) :
  AW P 0 (.seq (.seq (Jt1h5 p) (.block 4 (.loop (Jt1gy p)))) (.seq (.region [⟨(some 88),(.load (some 8) (.t 3)),none,false⟩,⟨none,(.store 8 (.t 2) (.t 88)),none,false⟩] []) .ret)) R
   ⟨[(56,AB false),(55,AI n0),(54,AI n0),(3,.ptr 2 0),(2,.ptr 1 0),(1,.ptr 0 0)],.mem [AI c.S.args,AI c.S.regs,.d (.sl sR),AI c.T.args,AI c.T.regs,AI c.T.slots,.d (.sl tR),.d (.sl wR)]::
   .mem [AI 0,AI 0,.nils,AI 0,AI 0,AI 0,.nils,.nils]::.mem [AI c.S.args,AI c.S.regs,sA,AI c.T.args,AI c.T.regs,AI c.T.slots,tA,.hsl 3 0 1 wR.length]::.mem (Jt16d (List.replicate wR.length [D.sl []]))::rowsB L⟩:=by
 have hwl:wR.length=c.W.length:=by rw [hwR];simp
 have hrl:(rowsB L).length=L.length:=by simp [rowsB]
 obtain ⟨cB,hcB⟩:∃ x:Blk,x=.mem [AI c.S.args,AI c.S.regs,.d (.sl sR),AI c.T.args,AI c.T.regs,AI c.T.slots,.d (.sl tR),.d (.sl wR)]:=⟨_,rfl⟩
 have hz:=midW_0 c.W
 rw [hwl,←hz]
 have hm0:=Jtt2 c.W (k:=0) (by omega)
 (simp (maxSteps:=9^6)[hwl])
 refine Jtf (fun k:Nat=>⟨[(76,AI k),(75,AI c.W.length),(74,.d (.sl wR)),(3,.ptr 2 0),(2,.ptr 1 0),(1,.ptr 0 0)],.mem [AI c.S.args,AI c.S.regs,.d (.sl sR),AI c.T.args,AI c.T.regs,AI c.T.slots,.d (.sl tR),.d (.sl wR)]::
   .mem [AI 0,AI 0,.nils,AI 0,AI 0,AI 0,.nils,.nils]::.mem [AI c.S.args,AI c.S.regs,.d (.sl sR),AI c.T.args,AI c.T.regs,AI c.T.slots,.d (.sl tR),.hsl 3 0 1 c.W.length]::.mem (midW c.W k)::blksV ((vl0 c.W).take k)⟩) (fun k=>k≤c.W.length) (fun k=>c.W.length-k) 0 (by simp) ?_ ?_
 ·refine Wk.of ?_ ⟨?_,?_,Jt5l rfl rfl (hsA.fin hs5 fun j k h=>h) rfl rfl rfl (htA.fin ht5 fun j k h=>h) rfl,Jt5m rfl,?_⟩ (by simp)<;>repeat' (first|exact True.intro|exact ⟨_,rfl,Jt1l6 rfl⟩ | exact ⟨_,rfl,Jt1l4 rfl⟩ | exact ⟨_,rfl,.inl .nild⟩ | exact ⟨_,rfl,.inl .nile⟩ | exact ⟨_,rfl,Jt1l5⟩ | exact Jt1l6 rfl|exact Jt1l4 rfl|exact .inl .nild|exact .inl .nile|exact Jt1l5|exact WkB.same rfl|exact Jt5o|exact Jt5n|exact .dead _|exact .iter _ _|exact .glob _ _|refine Jt5k ?_ ?_|refine And.intro ?_ ?_)
  simp [blksV,WkHs]
 ·rintro k hk N hN
  have hml:=Jtt2 c.W hk
  (simp (maxSteps:=9^6)[])
  ((first|refine Xc ?_ ?_|refine Xo ?_ ?_)<;>intro h2<;>try simp only [Xz,Xy] at h2)
  ·have hkl:k<c.W.length:=by omega
   obtain ⟨l,hl⟩:∃ l,c.W[k]?=some l:=⟨_,lgE hkl⟩
   have hll:=h5 l (lmG hl)
   have hwk:wR[k]?=some [.sl (l.map Pair.row)]:=by rw [hwR,lgM,hl];rfl
   have hw:=Jt1le (k:=k) (by omega)
   have hset:=Jtt3 hl
   have hsn:=Jtt4 hl
   have hkw:k+1≤(midW c.W k).length:=by omega
   have hspl:∀ x,(midW c.W k).take k++x::(midW c.W k).drop (k+1)=(midW c.W k).set k x:=fun x=>(Jt17o (by omega)).symm
   have hfin:=fun st' h=>hN st' (k+1) hkl h (by omega)
   clear hN
   by_cases hl0:l=[]
   ·have hcl:=Jt18m A
    subst hl0
    rw [if_pos rfl,List.append_nil] at hsn
    have hset:(midW c.W k).set k (.d (.sl []))=midW c.W (k+1):=hset
    rw [hsn] at hfin
    (simp (maxSteps:=9^6)[h2,hwk])
    repeat' (first | (with_reducible refine And.intro ?_ ?_) | (refine Jt1b [] 0 hcl (by decide) (by rfl) (by rfl) (by rfl) (by rfl) (by rfl) (by rfl) ?_) | (refine Jte ?_) | (simp (maxSteps:=9^6)[hkl,hkw,hspl,hset,hw]))
    all_goals (refine hfin _ ?_;refine Wk.of ?_ ⟨?_,?_,?_,Jt5m (by rw [hsn];simp;omega),Jt5t _⟩ (by simp)<;>repeat' (first|exact True.intro|exact ⟨_,rfl,Jt1l6 rfl⟩ | exact ⟨_,rfl,Jt1l4 rfl⟩ | exact ⟨_,rfl,.inl .nild⟩ | exact ⟨_,rfl,.inl .nile⟩ | exact ⟨_,rfl,Jt1l5⟩ | exact Jt1l6 rfl|exact Jt1l4 rfl|exact .inl .nild|exact .inl .nile|exact Jt1l5|exact WkB.same rfl|exact Jt5o|exact Jt5n|exact .dead _|exact .iter _ _|exact .glob _ _|refine Jt5k ?_ ?_|refine And.intro ?_ ?_))
   ·have hcl:=Jt18k A l hl0 hll
    rw [if_neg hl0] at hsn
    have hset:(midW c.W k).set k (.hsl (4+(blksV ((vl0 c.W).take k)).length) 0 2 l.length)=midW c.W (k+1):=by
     have:l.isEmpty=false:=by simpa using hl0
     rw [←hset];simp [VL.cell,this]
    rw [hsn] at hfin
    obtain ⟨Y,hY⟩:∃ Y,Y=blksV ((vl0 c.W).take k):=⟨_,rfl⟩
    rw [←hY] at hset hfin hsn ⊢
    have e4:Y.length+1+1+1+1=4+Y.length:=by omega
    (simp (maxSteps:=9^6)[h2,hwk])
    repeat' (first | (with_reducible refine And.intro ?_ ?_) | (refine Jt1b [] 1 hcl (by decide) (by rfl) (by rfl) (by rfl) Jt15m (by rfl) (by rfl) ?_) | (refine Jte ?_) | (simp (maxSteps:=9^6)[hkl,hkw,hspl,e4,hset,hw]))
    all_goals (refine hfin _ ?_;refine Wk.of ?_ ⟨?_,?_,?_,Jt5m (by rw [hsn];simp;omega),by rw [←hsn];exact Jt5t _⟩ (by simp)<;>repeat' (first|exact True.intro|exact ⟨_,rfl,Jt1l6 rfl⟩ | exact ⟨_,rfl,Jt1l4 rfl⟩ | exact ⟨_,rfl,.inl .nild⟩ | exact ⟨_,rfl,.inl .nile⟩ | exact ⟨_,rfl,Jt1l5⟩ | exact Jt1l6 rfl|exact Jt1l4 rfl|exact .inl .nild|exact .inl .nile|exact Jt1l5|exact WkB.same rfl|exact Jt5o|exact Jt5n|exact .dead _|exact .iter _ _|exact .glob _ _|refine Jt5k ?_ ?_|refine And.intro ?_ ?_))
  ·have hk':k=c.W.length:=by omega
   subst hk'
   rw [Jtt1,List.take_of_length_le (by simp [vl0])]
   (simp (maxSteps:=9^6)[])
   refine hR _ _ (Jt58 _ (.agg [AI c.S.args,AI c.S.regs,.d (.sl sR),AI c.T.args,AI c.T.regs,AI c.T.slots,.d (.sl tR),.hsl 3 0 1 c.W.length]) (.dead::.dead::.dead::.mem (cellsV 4 0 (vl0 c.W))::blksV (vl0 c.W)) rfl ?_ ⟨rfl,rfl⟩)
   have hm:=Jtt1 c.W
   refine Wk.of ⟨⟨_,rfl,Jt1l6 ?_⟩,trivial⟩ ⟨.dead _,.dead _,.dead _,?_,Jt5t _⟩ (Nat.zero_le _)
   ·simp [AV.ren,renL]
   ·rw [←hm];exact Jt5m (by rw [List.take_of_length_le (by simp [vl0])];simp;omega)
set_option maxHeartbeats 4000000 in
theorem Jtc9(A:All P p)(c:Cert)(h0:c.S.blocks.length≤100000)(h1:∀ b∈c.S.blocks,b.code.length≤1000000)(h2:c.T.blocks.length≤100000)(h3:∀ b∈c.T.blocks,b.code.length≤1000000)(h4:c.W.length≤100000)(h5:∀ l∈c.W,l.length<1000000)
  {sR tR wR:List (List D)} (hsR:sR=c.S.blocks.map Block.row) (htR:tR=c.T.blocks.map MBlock.row) (hwR:wR=c.W.map fun l=>[pairsD l]) {R:AExit→ASt→Prop}
  (hR:∀ e st,Fin [.cell 2 (some 8)] 0 (fun o H'=>o=.ret (.agg [AI c.S.args,AI c.S.regs,.d (.sl sR),AI c.T.args,AI c.T.regs,AI c.T.slots,.d (.sl tR),.hsl 3 0 1 c.W.length])∧
   H'=.dead::.dead::.dead::.mem (cellsV 4 0 (vl0 c.W))::blksV (vl0 c.W)) e st→R e st) :
  AW P 0 (Jt1h9 p) R ⟨[(3,.ptr 2 0),(2,.ptr 1 0),(1,.ptr 0 0)],[.mem [AI c.S.args,AI c.S.regs,.d (.sl sR),AI c.T.args,AI c.T.regs,AI c.T.slots,.d (.sl tR),.d (.sl wR)],
   .mem [AI 0,AI 0,.nils,AI 0,AI 0,AI 0,.nils,.nils],.mem [AI c.S.args,AI c.S.regs,.d (.sl sR),AI c.T.args,AI c.T.regs,AI c.T.slots,.d (.sl tR),.hsl 3 0 1 wR.length],.mem (Jt16d (List.replicate wR.length [D.sl []]))]⟩:=by
 have hwl:wR.length=c.W.length:=by rw [hwR];simp
 have hsl:sR.length=c.S.blocks.length:=by rw [hsR];simp
 have htl:tR.length=c.T.blocks.length:=by rw [htR];simp
 have hs5:∀ r∈sR,r.length=5:=by rw [hsR];exact Jt16t fun _=>rfl
 have ht5:∀ r∈tR,r.length=5:=by rw [htR];exact Jt16t fun _=>rfl
 obtain ⟨wZ,hwZ⟩:∃ x,x=List.replicate wR.length [D.sl []]:=⟨_,rfl⟩
 rw [←hwZ]
 rw [Jt1ha]
 refine Jti (S:=AV × AV × List (List (List D))) (fun s=>⟨[(3,.ptr 2 0),(2,.ptr 1 0),(1,.ptr 0 0)],.mem [AI c.S.args,AI c.S.regs,.d (.sl sR),AI c.T.args,AI c.T.regs,AI c.T.slots,.d (.sl tR),.d (.sl wR)]::
   .mem [AI 0,AI 0,.nils,AI 0,AI 0,AI 0,.nils,.nils]::.mem [AI c.S.args,AI c.S.regs,s.1,AI c.T.args,AI c.T.regs,AI c.T.slots,s.2.1,.hsl 3 0 1 wR.length]::.mem (Jt16d wZ)::rowsB s.2.2⟩)
  (fun s=>StOk sR s.1 s.2.2∧StOk tR s.2.1 s.2.2) (fun N hN=>?_) ?_
 ·by_cases hs:sR=[]
  ·have cs:=Jt188 A
   by_cases ht:tR=[]
   ·have ct:=Jt18e A
    rw [hs,ht] at hN ⊢
    have hfin:=fun st'=>hN st' (.d (.sl []),.d (.sl []),[]) ⟨.inl ⟨rfl,rfl⟩,.inl ⟨rfl,rfl⟩⟩
    simp only [rowsB,List.map_nil] at hfin
    clear hN
    (simp (maxSteps:=9^6)[])
    repeat' (first | (with_reducible refine And.intro ?_ ?_) | (refine Jt1b [] 0 cs (by decide) (by rfl) (by rfl) (by rfl) (by rfl) (by rfl) (by rfl) ?_) | (refine Jt1b [] 0 ct (by decide) (by rfl) (by rfl) (by rfl) (by rfl) (by rfl) (by rfl) ?_) | (refine hfin _ ?_;(exact wkA)) | (simp (maxSteps:=9^6)[]))
   ·have htn:c.T.blocks≠[]:=by intro e;rw [e] at htR;exact ht htR
    have ct:=Jt18d A c.T.blocks htn (by omega)
    rw [←htR] at ct
    rw [hs] at hN ⊢
    have hfin:=fun st'=>hN st' (.d (.sl []),.hsl 4 0 5 tR.length,[tR]) ⟨.inl ⟨rfl,rfl⟩,.inr ⟨ht,0,rfl,rfl⟩⟩
    simp only [rowsB,List.map_nil,List.map_cons,htl] at hfin
    clear hN
    (simp (maxSteps:=9^6)[])
    repeat' (first | (with_reducible refine And.intro ?_ ?_) | (refine Jt1b [] 0 cs (by decide) (by rfl) (by rfl) (by rfl) (by rfl) (by rfl) (by rfl) ?_) | (refine Jt1b [] 1 ct (by decide) (by rfl) (by rfl) (by rfl) Jt15m (by rfl) (by rfl) ?_) | (refine hfin _ ?_;(exact wkA)) | (simp (maxSteps:=9^6)[]))
  ·have hsn:c.S.blocks≠[]:=by intro e;rw [e] at hsR;exact hs hsR
   have cs:=Jt187 A c.S.blocks hsn (by omega)
   rw [←hsR] at cs
   by_cases ht:tR=[]
   ·have ct:=Jt18e A
    rw [ht] at hN ⊢
    have hfin:=fun st'=>hN st' (.hsl 4 0 5 sR.length,.d (.sl []),[sR]) ⟨.inr ⟨hs,0,rfl,rfl⟩,.inl ⟨rfl,rfl⟩⟩
    simp only [rowsB,List.map_nil,List.map_cons,hsl] at hfin
    clear hN
    (simp (maxSteps:=9^6)[])
    repeat' (first | (with_reducible refine And.intro ?_ ?_) | (refine Jt1b [] 1 cs (by decide) (by rfl) (by rfl) (by rfl) Jt15m (by rfl) (by rfl) ?_) | (refine Jt1b [] 0 ct (by decide) (by rfl) (by rfl) (by rfl) (by rfl) (by rfl) (by rfl) ?_) | (refine hfin _ ?_;(exact wkA)) | (simp (maxSteps:=9^6)[]))
   ·have htn:c.T.blocks≠[]:=by intro e;rw [e] at htR;exact ht htR
    have ct:=Jt18d A c.T.blocks htn (by omega)
    rw [←htR] at ct
    have hf1:=fun st'=>hN st' (.hsl 4 0 5 sR.length,.hsl 5 0 5 tR.length,[sR,tR]) ⟨.inr ⟨hs,0,rfl,rfl⟩,.inr ⟨ht,1,rfl,rfl⟩⟩
    have hf2:=fun st'=>hN st' (.hsl 5 0 5 sR.length,.hsl 4 0 5 tR.length,[tR,sR]) ⟨.inr ⟨hs,1,rfl,rfl⟩,.inr ⟨ht,0,rfl,rfl⟩⟩
    simp only [rowsB,List.map_nil,List.map_cons,hsl,htl] at hf1 hf2
    clear hN
    (simp (maxSteps:=9^6)[])
    repeat' (first | (with_reducible refine And.intro ?_ ?_) | (refine Jt1b [] 1 cs (by decide) (by rfl) (by rfl) (by rfl) Jt15m (by rfl) (by rfl) ?_) | (refine Jt1b [] 1 ct (by decide) (by rfl) (by rfl) (by rfl) Jt15m (by rfl) (by rfl) ?_) | (refine hf1 _ ?_;(exact wkA)) | (refine hf2 _ ?_;(exact wkA)) | (simp (maxSteps:=9^6)[]))
 ·rintro ⟨sA,tA,L⟩ ⟨hsA,htA⟩
  simp only at hsA htA ⊢
  obtain ⟨ws1,ws2,ws3⟩:=hsA.wk (n:=4+L.length) rfl
  obtain ⟨wt1,wt2,wt3⟩:=htA.wk (n:=4+L.length) rfl
  have hwZ':=fun (H:List Blk) (n:Nat)=>Jt5o (H:=H) (n:=n) (rows:=wZ)
  have hoB:∀ H,WkB H (4+L.length) (.mem [AI c.S.args,AI c.S.regs,sA,AI c.T.args,AI c.T.regs,AI c.T.slots,tA,.hsl 3 0 1 wR.length]) (.mem [AI c.S.args,AI c.S.regs,sA,AI c.T.args,AI c.T.regs,AI c.T.slots,tA,.hsl 3 0 1 wR.length]):=fun H=>
   Jt5l rfl rfl (Jt1l6 ws1) rfl rfl rfl (Jt1l6 wt1) (by simp only [AV.ren];rw [if_pos (by omega)])
  refine clone1 A c h0 h1 hsR hsA (fun H n=>.same rfl) (fun H n=>.same rfl) hwZ' hoB fun n0=>?_
  refine clone2 A c h2 h3 htR htA (fun H n=>.same rfl) (fun H n=>.same rfl) hwZ' hoB fun n1=>?_
  rw [hwZ]
  exact clone3 A c h4 h5 hwR hs5 ht5 hsA htA hR
end
end Go.AE
set_option maxRecDepth 8000
namespace Go.AE
open Go
section
variable {P:Program} {p:Nums}
set_option maxHeartbeats 4000000 in
theorem Jt1h8(A:All P p)(c:Cert)(h0:c.S.blocks.length≤100000)(h1:∀ b∈c.S.blocks,b.code.length≤1000000)(h2:c.T.blocks.length≤100000)(h3:∀ b∈c.T.blocks,b.code.length≤1000000)(h4:c.W.length≤100000)(h5:∀ l∈c.W,l.length<1000000):
  Jt51 P p.Yf35 [c.av] [] fun o H'=>o=.ret (.agg [AI c.S.args,AI c.S.regs,.d (.sl (c.S.blocks.map Block.row)),AI c.T.args,AI c.T.regs,AI c.T.slots,.d (.sl (c.T.blocks.map MBlock.row)),.hsl 3 0 1 c.W.length])∧
   H'=.dead::.dead::.dead::.mem (cellsV 4 0 (vl0 c.W))::blksV (vl0 c.W):=by
 obtain ⟨sR,hsR⟩:∃ x,x=c.S.blocks.map Block.row:=⟨_,rfl⟩
 obtain ⟨tR,htR⟩:∃ x,x=c.T.blocks.map MBlock.row:=⟨_,rfl⟩
 obtain ⟨wR,hwR⟩:∃ x,x=c.W.map fun l=>[pairsD l]:=⟨_,rfl⟩
 have hwl:wR.length=c.W.length:=by rw [hwR];simp
 have hsl:sR.length=c.S.blocks.length:=by rw [hsR];simp
 have htl:tR.length=c.T.blocks.length:=by rw [htR];simp
 have hs5:∀ r∈sR,r.length=5:=by rw [hsR];exact Jt16t fun _=>rfl
 have ht5:∀ r∈tR,r.length=5:=by rw [htR];exact Jt16t fun _=>rfl
 simp only [Cert.av,witD,←hsR,←htR,←hwR]
 obtain ⟨cB,hcB⟩:∃ x:Blk,x=.mem [AI c.S.args,AI c.S.regs,.d (.sl sR),AI c.T.args,AI c.T.regs,AI c.T.slots,.d (.sl tR),.d (.sl wR)]:=⟨_,rfl⟩
 obtain ⟨rB,hrB⟩:∃ x:Blk,x=.mem [AI 0,AI 0,.nils,AI 0,AI 0,AI 0,.nils,.nils]:=⟨_,rfl⟩
 obtain ⟨wZ,hwZ⟩:∃ x,x=List.replicate wR.length [D.sl []]:=⟨_,rfl⟩
 refine A.Yf35.run rfl fun R hR=>?_
 (simp (maxSteps:=9^6)[Jtkz])
 rw [Jt1hc]
 refine Jth ⟨[(3,.ptr 2 0),(2,.ptr 1 0),(1,.ptr 0 0)],[cB,rB,.mem [AI c.S.args,AI c.S.regs,.d (.sl sR),AI c.T.args,AI c.T.regs,AI c.T.slots,.d (.sl tR),.hsl 3 0 1 wR.length],.mem (Jt16d wZ)]⟩
  ⟨[(3,.ptr 3 0),(2,.ptr 1 0),(1,.ptr 0 0)],[cB,rB,.mem (Jt16d wZ),.mem [AI c.S.args,AI c.S.regs,.d (.sl sR),AI c.T.args,AI c.T.regs,AI c.T.slots,.d (.sl tR),.hsl 2 0 1 wR.length]]⟩
  ⟨[(3,.ptr 2 0),(2,.ptr 1 0),(1,.ptr 0 0)],[cB,rB,.mem [AI c.S.args,AI c.S.regs,.d (.sl sR),AI c.T.args,AI c.T.regs,AI c.T.slots,.d (.sl tR),.hsl 3 0 1 wR.length],.mem (Jt16d wZ)]⟩ 2 3 (fun N hN hN'=>?_) ?_ (by rw [hcB,hrB];(exact wkA)) ?_
 ·rw [hcB,hrB] at hN hN'
  (simp (maxSteps:=9^6)[])
  repeat' (first | (with_reducible refine And.intro ?_ ?_) | (refine Jt2n (n:=wR.length) (by rfl) (by rfl) (by omega) (by omega) (by decide) (by rfl) ?_) | (refine hN _ ?_;rw [hwZ];(exact wkA)) | (refine hN' _ ?_;rw [hwZ];(exact wkA)) | (simp (maxSteps:=9^6)[]))
 ·rw [hcB,hrB]
  exact Mv.of (by rfl) (Jt15f rfl (Jt15f rfl (Jt15f (Jt16m _ _) (Jt15f rfl rfl)))) rfl rfl (by omega) (by omega) (by omega)
 ·rw [hcB,hrB,hwZ];exact Jtc9 A c h0 h1 h2 h3 h4 h5 hsR htR hwR hR
end
end Go.AE
set_option maxRecDepth 8000
namespace Go.AE
open Go
theorem get7{a b c d e f g:Blk}{t:List Blk}{j:Nat}:(a::b::c::d::e::f::g::t)[j+7]?=t[j]?:=rfl
theorem set7{a b c d e f g x:Blk}{t:List Blk}{j:Nat}:(a::b::c::d::e::f::g::t).set (j+7) x=a::b::c::d::e::f::g::t.set j x:=rfl
def certW(c:Cert)(b:Nat):List AV:=[AI c.S.args,AI c.S.regs,.d (.sl (c.S.blocks.map Block.row)),AI c.T.args,AI c.T.regs,AI c.T.slots,.d (.sl (c.T.blocks.map MBlock.row)),.hsl b 0 1 c.W.length]
def wRows (W:List (List Pair)):List (List D):=W.map fun l=>[pairsD l]
theorem Jt1fu (W:List (List Pair)):(vl0 W).map (fun v=>[pairsD v.M])=wRows W:=by simp [vl0,wRows,Function.comp_def]
theorem vl0_ok (W:List (List Pair)):∀ v∈vl0 W,v.e=true→v.M=[]:=by
 intro v hv he
 obtain ⟨l,_,rfl⟩:=List.mem_map.1 hv
 simpa using he
theorem Jt63{c:Cert}{b:Nat}{H:List Blk}{W:List (List Pair)} (hW:W.length=c.W.length) (hb:H[b]?=some (.mem (Jt16d (wRows W)))):WkV H 0 (.agg (certW c b)) (.agg [AI c.S.args,AI c.S.regs,.d (.sl (c.S.blocks.map Block.row)),AI c.T.args,AI c.T.regs,AI c.T.slots,.d (.sl (c.T.blocks.map MBlock.row)),.d (.sl (wRows W))]):=by
 have hw:WkV H 0 (.hsl b 0 1 c.W.length) (.d (.sl (wRows W))):=by
  refine .hsl b 0 1 c.W.length _ (wRows W) hb (Nat.zero_le _) ?_ (by simp [wRows,hW]) (fun r hr=>by unfold wRows at hr;obtain ⟨l,_,rfl⟩:=List.mem_map.1 hr;rfl)
  have hl:(Jt16d (wRows W)).length=c.W.length*1:=by
   rw [Jt16l (e:=1) (fun r hr=>by unfold wRows at hr;obtain ⟨l,_,rfl⟩:=List.mem_map.1 hr;rfl)];simp [wRows,hW]
  rw [List.drop_zero,←hl,List.take_length];rfl
 refine Jt62 ⟨.refl _ rfl,.refl _ rfl,.refl _ rfl,.refl _ rfl,.refl _ rfl,.refl _ rfl,.refl _ rfl,hw,trivial⟩
section
variable {P:Program} {p:Nums}
theorem Jtc8(A:All P p){K:ASt→Prop}{QP:AV→ASt→Prop}{dst:Option Nat}{st:ASt}(c:Cert)(h0:c.S.blocks.length≤100000)(h1:∀ b∈c.S.blocks,b.code.length≤1000000)(h2:c.T.blocks.length≤100000)(h3:∀ b∈c.T.blocks,b.code.length≤1000000)(h4:c.W.length≤100000)(h5:∀ l∈c.W,l.length<1000000)
  (hK:K (put dst (.agg (certW c (st.H.length+3))) ⟨unview st.env,st.H++(.dead::.dead::.dead::.mem (cellsV (st.H.length+4) 0 (vl0 c.W))::blksV (vl0 c.W))⟩)):AWcall P false p.Yf35 [c.av] dst K QP st:=by
 obtain ⟨n,hn⟩:∃ n,n=(blksV (vl0 c.W)).length:=⟨_,rfl⟩
 have hlen:(Blk.dead::.dead::.dead::.mem (cellsV 4 0 (vl0 c.W))::blksV (vl0 c.W)).length=n+4:=by simp [hn]
 have hr:=Jtap (B:=4) (B':=st.H.length+4) (n:=n) (ρ:=back [] st.H.length (n+4)) (vl0 c.W) 0 (by omega) (fun j hj=>by
  unfold back;simp only [List.length_nil,Nat.not_lt_zero,if_false,Nat.zero_add,Nat.sub_zero];rw [if_pos (by omega)];congr 1;omega)
 refine Jt1b [] (n+4) (Hb:=.dead::.dead::.dead::.mem (cellsV (st.H.length+4) 0 (vl0 c.W))::blksV (vl0 c.W)) (y:=.agg (certW c (st.H.length+3))) (Jt1h8 A c h0 h1 h2 h3 h4 h5) (by simp) rfl rfl rfl ?_ (by rw [hlen];simp) ?_ ?_
 ·simp only [renB,Blk.ren,hr,Jt82]
 ·simp only [AV.ren,renL,certW,back,List.length_nil,Nat.not_lt_zero,if_false,Nat.zero_add,Nat.sub_zero]
  rw [if_pos (by omega)]
 ·exact hK
theorem Jtd6(A:All P p){K:ASt→Prop}{QP:AV→ASt→Prop}{dst:Option Nat}{E:List (Nat × AV)} {b0 b1 b2 b3 b4 b5 b6:Blk} {T:List Blk} {q g:Nat} {f:Pair→Bool} (hg:DelOk P g b1 f) (l:List Pair) (h0:l.length<1000000) (hq:T[q]?=some (.mem (Jt16d (l.map Pair.row))))
  (hK:K (put dst (.hsl (q+7) 0 2 (keptP f l).length) ⟨unview E,b0::b1::b2::b3::b4::b5::b6::T.set q (.mem (Jt16d ((keptP f l++List.replicate (l.length-(keptP f l).length) zeroP).map Pair.row)))⟩)) :
  AWcall P false p.Yf36 [.hsl (q+7) 0 2 l.length,.fn (.func g) [] [.ptr 1 0]] dst K QP ⟨E,b0::b1::b2::b3::b4::b5::b6::T⟩:=by
 refine Jt19 [1,q+7] (Jt19o A hg l h0) (by simp) (by simp [renL,AV.ren,idx]) (by simp [picks,hq]) (Jt15k hg.ren) (Jt15k hg.ren) rfl (y:=.hsl (q+7) 0 2 (keptP f l).length) (by simp [AV.ren,back]) ?_
 exact hK
theorem Jtd7(A:All P p){K:ASt→Prop}{QP:AV→ASt→Prop}{dst:Option Nat}{E:List (Nat × AV)} {b0 b1:Blk} {T:List Blk} {g:Nat} (hren:∀ ρ:Nat→Option Nat,b1.ren ρ=some b1)
  (hK:K (put dst (.d (.sl [])) ⟨unview E,b0::b1::T⟩)):AWcall P false p.Yf36 [.d (.sl []),.fn (.func g) [] [.ptr 1 0]] dst K QP ⟨E,b0::b1::T⟩:=by
 refine Jt19 [1] (cargs:=[.d (.sl []),.fn (.func g) [] [.ptr 0 0]]) (Hp:=[b1]) (Jt19p A hren) (by simp) (by simp [renL,AV.ren,idx]) (by simp [picks]) (Jt15j hren) (Jt15j hren) rfl (y:=.d (.sl [])) rfl ?_
 exact hK
end
theorem Jt17n{Y:List Blk}{z x:Blk}:(Y++[z]).set Y.length x=Y++[x]:=by rw [List.set_append_right _ _ (Nat.le_refl _)];simp
theorem Jtgo{Y:List Blk}{z:Blk}:(Y++[z])[Y.length]?=some z:=by simp
theorem Jt53{c:Cert}{V:List VL}{b0 b1 b2 b3 b4 b5:Blk}{Z:List Blk}(hV:∀ v∈V,v.e=true→v.M=[]) (hn:V.length=c.W.length) :
  Wk 0 ⟨[(0,.agg (certW c 6))],b0::b1::b2::b3::b4::b5::.mem (cellsV 7 0 V)::(blksV V++Z)⟩ ⟨[(0,.agg (certW c 6))],[.dead,.dead,.dead,.dead,.dead,.dead,.mem (Jt16d (V.map fun v=>[pairsD v.M]))]⟩:=by
 refine Wk.of ⟨⟨_,rfl,Jt1l6 rfl⟩,trivial⟩ ⟨.dead _,.dead _,.dead _,.dead _,.dead _,.dead _,Jt5i (Nat.le_refl _) hV (fun j k hj=>?_),by simp [WkHs]⟩ (Nat.zero_le _)
 show (b0::b1::b2::b3::b4::b5::.mem (cellsV 7 0 V)::(blksV V++Z))[7+(0+j)]?=some k
 rw [Nat.zero_add,Nat.add_comm 7 j,get7,lgA (lgS.1 hj).1];exact hj
def keepW(c:Cert)(i:Nat)(q:Pair):List (List Pair):=c.W.set i (keptP (fun x=>decide (x=q)) ((c.W[i]?).getD []))
section
variable {P:Program} {p:Nums}
set_option maxHeartbeats 4000000 in
theorem Jt1gp(A:All P p)(c:Cert)(q0:Pair)(i:Nat)(hi:i<c.W.length)(h0:c.S.blocks.length≤100000)(h1:∀ b∈c.S.blocks,b.code.length≤1000000)(h2:c.T.blocks.length≤100000)(h3:∀ b∈c.T.blocks,b.code.length≤1000000)(h4:c.W.length≤100000)(h5:∀ l∈c.W,l.length<1000000):
  Jt51 P p.Yf2z [c.av,AI i,q0.av] [] fun o H'=>o=.ret (.agg (certW c 6))∧H'=[.dead,.dead,.dead,.dead,.dead,.dead,.mem (Jt16d (wRows (keepW c i q0)))]:=by
 refine A.Yf2z.run rfl fun R hR=>?_
 have hcl:=fun (K:ASt→Prop) QP dst st=>Jtc8 A (K:=K) (QP:=QP) (dst:=dst) (st:=st) c h0 h1 h2 h3 h4 h5
 obtain ⟨l,hl⟩:∃ l,c.W[i]?=some l:=⟨_,lgE hi⟩
 have hll:=h5 l (lmG hl)
 obtain ⟨V,hV⟩:∃ V,V=vl0 c.W:=⟨_,rfl⟩
 obtain ⟨sR,hsR⟩:∃ x,x=c.S.blocks.map Block.row:=⟨_,rfl⟩
 obtain ⟨tR,htR⟩:∃ x,x=c.T.blocks.map MBlock.row:=⟨_,rfl⟩
 obtain ⟨wR,hwR⟩:∃ x,x=c.W.map fun l=>[pairsD l]:=⟨_,rfl⟩
 simp only [Cert.av,witD,certW,←hsR,←htR,←hwR,←hV] at hR hcl ⊢
 obtain ⟨Y,hY⟩:∃ Y,Y=blksV V:=⟨_,rfl⟩
 rw [←hY] at hcl
 have hvi:V[i]?=some ⟨l.isEmpty,l,[]⟩:=by rw [hV];exact Jt1ft hl
 (simp (maxSteps:=9^6)[Jtkx,Pair.av])
 refine hcl _ _ _ _ ?_
 have e7:Y.length+1+1+1+1+1+1+1=Y.length+7:=rfl
 have hiN:(i:Int)<(c.W.length:Int):=by omega
 (simp (maxSteps:=9^6)[e7,get7,set7,Jtgo,Jt17n,hi])
 have hcg:=Jtan (B:=7) (q:=0) hvi
 have hcl1:i+1≤(cellsV 7 0 V).length:=by rw [Jtao,hV];simp [vl0];omega
 have hspl:∀ x,(cellsV 7 0 V).take i++x::(cellsV 7 0 V).drop (i+1)=(cellsV 7 0 V).set i x:=fun x=>(Jt17o (by omega)).symm
 have hok:∀ v∈V,v.e=true→v.M=[]:=by rw [hV];exact vl0_ok _
 have hVl:V.length=c.W.length:=by rw [hV];simp [vl0]
 have hdel:=Jt15d A q0
 have hend:∀ (V':List VL) (b0 b1 b3 b4 b5:Blk) (Z:List Blk) (E:List (Nat × AV)),(∀ v∈V',v.e=true→v.M=[])→V'.length=c.W.length→(V'.map fun v=>[pairsD v.M])=wRows (keepW c i q0)→get E 6=some (.ptr 2 0)→
   R .ret ⟨E,b0::b1::.mem [AI c.S.args,AI c.S.regs,.d (.sl sR),AI c.T.args,AI c.T.regs,AI c.T.slots,.d (.sl tR),.hsl 6 0 1 c.W.length]::b3::b4::b5::.mem (cellsV 7 0 V')::(blksV V'++Z)⟩:=by
  intro V' b0 b1 b3 b4 b5 Z E g1 g2 g3 g4
  refine hR _ _ (Jt58 (.agg (certW c 6)) (.agg (certW c 6)) [.dead,.dead,.dead,.dead,.dead,.dead,.mem (Jt16d (V'.map fun v=>[pairsD v.M]))] ?_ (Jt53 g1 g2) ⟨by simp only [certW,hsR,htR],by rw [g3]⟩)
  simp [rV,rOne,g4,certW,hsR,htR]
 clear hR
 by_cases hl0:l=[]
 ·subst hl0
  have hcg:(cellsV 7 0 V)[i]?=some (.d (.sl [])):=hcg
  have hset:(cellsV 7 0 V).set i (.d (.sl []))=cellsV 7 0 V:=by
   have:=(lgS.1 hcg)
   rw [←this.2];exact List.set_getElem_self _
  have hW:(V.map fun v=>[pairsD v.M])=wRows (keepW c i q0):=by
   rw [hV,Jt1fu,keepW,hl,Option.getD_some]
   have:keptP (fun x=>decide (x=q0)) []=([]:List Pair):=rfl
   rw [this]
   have h2:=(lgS.1 hl)
   rw [←h2.2,List.set_getElem_self]
  rw [hY]
  rw [hY] at e7
  repeat' (first | (with_reducible refine And.intro ?_ ?_) | (refine Jtd7 A hdel.ren ?_) | (refine Jte ?_) | (refine hend V _ _ _ _ _ _ _ hok hVl hW ?_;rfl) | (simp (maxSteps:=9^6)[e7,get7,set7,Jtgo,Jt17n,hi,hcg,hcl1,hspl,hset]))
 ·have hle:l.isEmpty=false:=by simpa using hl0
  have hcg:(cellsV 7 0 V)[i]?=some (.hsl (posV V i+7) 0 2 l.length):=by
   rw [hcg];simp [VL.cell,hle,Nat.add_comm]
  obtain ⟨kp,hkp⟩:∃ kp,kp=keptP (fun x=>decide (x=q0)) l:=⟨_,rfl⟩
  obtain ⟨v',hv'⟩:∃ v':VL,v'=⟨false,kp,List.replicate (l.length-kp.length) zeroP⟩:=⟨_,rfl⟩
  have hve:v'.e=(⟨l.isEmpty,l,[]⟩:VL).e:=by rw [hv',hle]
  have hset:(cellsV 7 0 V).set i (.hsl (posV V i+7) 0 2 kp.length)=cellsV 7 0 (V.set i v'):=by
   rw [←Jtaq hve hvi,hv'];simp [VL.cell,Nat.add_comm]
  have hbg:=Jt81 hvi hle
  have hbs:=Jt83 (v':=v') hle (by rw [hv']) hvi
  have hpl:=Jtxz hvi hle
  rw [←hY] at hbg hbs hpl
  have hq:∀ z,(Y++[z])[posV V i]?=some (.mem (Jt16d (l.map Pair.row))):=fun z=>by
   rw [lgA hpl,hbg];simp [VL.blk]
  have hqs:∀ z,(Y++[z]).set (posV V i) (.mem (Jt16d ((kp++List.replicate (l.length-kp.length) zeroP).map Pair.row)))=blksV (V.set i v')++[z]:=fun z=>by
   rw [List.set_append_left _ _ hpl,←hbs,hv'];rfl
  have hyl:(blksV (V.set i v')).length=Y.length:=by rw [←hbs];simp
  have hge:∀ z,(blksV (V.set i v')++[z])[Y.length]?=some z:=fun z=>by rw [←hyl];exact Jtgo
  have hse:∀ z x,(blksV (V.set i v')++[z]).set Y.length x=blksV (V.set i v')++[x]:=fun z x=>by rw [←hyl];exact Jt17n
  have hok2:∀ v∈V.set i v',v.e=true→v.M=[]:=by
   intro v hv he
   rcases List.mem_or_eq_of_mem_set hv with h | h
   ·exact hok v h he
   ·rw [h,hv'] at he;cases he
  have hW:((V.set i v').map fun v=>[pairsD v.M])=wRows (keepW c i q0):=by
   rw [List.map_set,hV,Jt1fu,keepW,hl,Option.getD_some,←hkp,hv'];simp [wRows,List.map_set]
  have hdc:=fun (K:ASt→Prop) QP dst E b0 b2 b3 b4 b5 b6 z=>Jtd6 A (K:=K) (QP:=QP) (dst:=dst) (E:=E) (b0:=b0) (b2:=b2) (b3:=b3) (b4:=b4) (b5:=b5) (b6:=b6) hdel l hll (hq z)
  rw [←hkp] at hdc
  simp only [hqs] at hdc
  repeat' (first | (with_reducible refine And.intro ?_ ?_) | (refine hdc _ _ _ _ _ _ _ _ _ _ _ ?_) | (refine Jte ?_) | (refine hend (V.set i v') _ _ _ _ _ _ _ hok2 (by simpa using hVl) hW ?_;rfl) | (simp (maxSteps:=9^6)[e7,get7,set7,Jtgo,Jt17n,hge,hse,hi,hcg,hcl1,hspl,hset]))
end
end Go.AE
set_option maxRecDepth 8000
namespace Go.AE
open Go
def remZ(c:Cert)(b:Int)(q:Pair):Cert:=if 0≤b∧b<c.W.length then remC c b.toNat q else c
theorem Jtm6(q:Pair)(l:List Pair):keptP (fun x=>decide (x=q)) l=dropP q l:=by
 unfold keptP dropP;congr 1;funext x;simp
theorem Jtm5(c:Cert)(i:Nat)(q:Pair):keepW c i q=(remC c i q).W:=by
 unfold keepW remC subC;rw [Jtm6]
theorem Jt15c(c:Cert){i:Nat}(hi:i<c.W.length)(q:Pair):remZ c i q=remC c i q:=by
 unfold remZ;rw [if_pos ⟨by omega,by omega⟩];rfl
theorem remZ_S(c:Cert)(b:Int)(q:Pair):(remZ c b q).S=c.S∧(remZ c b q).T=c.T∧(remZ c b q).W.length=c.W.length:=by
 unfold remZ
 split
 ·exact ⟨rfl,rfl,by simp [remC,subC]⟩
 ·exact ⟨rfl,rfl,rfl⟩
structure SmallC (c:Cert):Prop where
 h0:c.S.blocks.length≤100000
 h1:∀ b∈c.S.blocks,b.code.length≤1000000
 h2:c.T.blocks.length≤100000
 h3:∀ b∈c.T.blocks,b.code.length≤1000000
 h4:c.W.length≤100000
 h5:∀ l∈c.W,l.length<1000000
theorem Jt7t(c d:Cert)(hS:d.S=c.S)(hT:d.T=c.T):d.av=.agg [AI c.S.args,AI c.S.regs,.d (.sl (c.S.blocks.map Block.row)),AI c.T.args,AI c.T.regs,AI c.T.slots,.d (.sl (c.T.blocks.map MBlock.row)),.d (.sl (wRows d.W))]:=by
 unfold Cert.av;rw [hS,hT];rfl
section
variable {P:Program} {p:Nums}
theorem Jt1gv(A:All P p)(c:Cert)(q0:Pair)(b:Int)(hb:¬ (0≤b∧b<c.W.length)) (hs:SmallC c) :
  Jt51 P p.Yf2z [c.av,AI b,q0.av] [] fun o H'=>o=.ret (.agg (certW c 6))∧H'=[.dead,.dead,.dead,.dead,.dead,.dead,.mem (Jt16d (wRows c.W))]:=by
 refine A.Yf2z.run rfl fun R hR=>?_
 have hcl:=fun (K:ASt→Prop) QP dst st=>Jtc8 A (K:=K) (QP:=QP) (dst:=dst) (st:=st) c hs.h0 hs.h1 hs.h2 hs.h3 hs.h4 hs.h5
 obtain ⟨V,hV⟩:∃ V,V=vl0 c.W:=⟨_,rfl⟩
 obtain ⟨sR,hsR⟩:∃ x,x=c.S.blocks.map Block.row:=⟨_,rfl⟩
 obtain ⟨tR,htR⟩:∃ x,x=c.T.blocks.map MBlock.row:=⟨_,rfl⟩
 obtain ⟨wR,hwR⟩:∃ x,x=c.W.map fun l=>[pairsD l]:=⟨_,rfl⟩
 simp only [Cert.av,witD,certW,←hsR,←htR,←hwR,←hV] at hR hcl ⊢
 obtain ⟨Y,hY⟩:∃ Y,Y=blksV V:=⟨_,rfl⟩
 rw [←hY] at hcl
 (simp (maxSteps:=9^6)[Jtkx,Pair.av])
 refine hcl _ _ _ _ ?_
 have e7:Y.length+1+1+1+1+1+1+1=Y.length+7:=rfl
 have hok:∀ v∈V,v.e=true→v.M=[]:=by rw [hV];exact vl0_ok _
 have hVl:V.length=c.W.length:=by rw [hV];simp [vl0]
 have hW:(V.map fun v=>[pairsD v.M])=wRows c.W:=by rw [hV,Jt1fu]
 have hend:∀ (b0 b1 b3 b4 b5:Blk) (Z:List Blk) (E:List (Nat × AV)),get E 6=some (.ptr 2 0)→
   R .ret ⟨E,b0::b1::.mem [AI c.S.args,AI c.S.regs,.d (.sl sR),AI c.T.args,AI c.T.regs,AI c.T.slots,.d (.sl tR),.hsl 6 0 1 c.W.length]::b3::b4::b5::.mem (cellsV 7 0 V)::(Y++Z)⟩:=by
  intro b0 b1 b3 b4 b5 Z E g4
  refine hR _ _ (Jt58 (.agg (certW c 6)) (.agg (certW c 6)) [.dead,.dead,.dead,.dead,.dead,.dead,.mem (Jt16d (V.map fun v=>[pairsD v.M]))] ?_ (by rw [hY];exact Jt53 hok hVl) ⟨by simp only [certW,hsR,htR],by rw [hW]⟩)
  simp [rV,rOne,g4,certW,hsR,htR]
 clear hR
 by_cases h1:0≤b
 ·have h2:¬ b<(c.W.length:Int):=fun h=>hb ⟨h1,h⟩
  (simp (maxSteps:=9^6)[e7,get7,set7,Jtgo,Jt17n,h1,h2])
  exact hend _ _ _ _ _ _ _ rfl
 ·(simp (maxSteps:=9^6)[e7,get7,set7,Jtgo,Jt17n,h1])
  exact hend _ _ _ _ _ _ _ rfl
theorem Jt1gu(A:All P p)(c:Cert)(b:Int)(q:Pair)(hs:SmallC c):Jt51 P p.Yf2z [c.av,AI b,q.av] [] fun o _=>o=.ret (remZ c b q).av:=by
 obtain ⟨r1,r2,r3⟩:=remZ_S c b q
 rw [Jt7t c _ r1 r2]
 by_cases hb:0≤b∧b<c.W.length
 ·obtain ⟨i,rfl⟩:∃ i:Nat,b=i:=⟨b.toNat,by omega⟩
  have hi:i<c.W.length:=by omega
  have h:=Jt1gp A c q i hi hs.h0 hs.h1 hs.h2 hs.h3 hs.h4 hs.h5
  rw [Jt15c c hi,←Jtm5]
  exact (h.freeze (Jt63 (by simp [keepW]) rfl)).mono fun _ _ h=>h.1
 ·have h:=Jt1gv A c q b hb hs
  have:remZ c b q=c:=by unfold remZ;rw [if_neg hb]
  rw [this]
  exact (h.freeze (Jt63 rfl rfl)).mono fun _ _ h=>h.1
end
end Go.AE
set_option maxRecDepth 8000
namespace Go.AE
open Go
section
variable {a b c d e f x y z:Blk} {Y T:List Blk} {n0:Nat}
theorem at6(h:Y.length=n0):(a::b::c::d::e::f::(Y++z::T))[n0+6]?=some z:=by
 show (Y++z::T)[n0]?=some z
 rw [←h];simp
theorem at7(h:Y.length=n0):(a::b::c::d::e::f::(Y++z::x::T))[n0+7]?=some x:=by
 show (Y++z::x::T)[n0+1]?=some x
 rw [←h,List.getElem?_append_right (by omega)];simp
theorem st6(h:Y.length=n0):(a::b::c::d::e::f::(Y++z::T)).set (n0+6) y=a::b::c::d::e::f::(Y++y::T):=by
 show a::b::c::d::e::f::(Y++z::T).set n0 y=_
 rw [←h,List.set_append_right _ _ (Nat.le_refl _)];simp
theorem st7(h:Y.length=n0):(a::b::c::d::e::f::(Y++z::x::T)).set (n0+7) y=a::b::c::d::e::f::(Y++z::y::T):=by
 show a::b::c::d::e::f::(Y++z::x::T).set (n0+1) y=_
 rw [←h,List.set_append_right _ _ (by omega)];simp
end
theorem set6{a b c d e f x:Blk}{t:List Blk}{j:Nat}:(a::b::c::d::e::f::t).set (j+6) x=a::b::c::d::e::f::t.set j x:=rfl
theorem Jt5u{H:List Blk}{n:Nat}{T T':List Blk}(h:WkHs H n T T'):∀ V:List VL,WkHs H n (blksV V++T) (blksV V++T'):=by
 intro V
 induction V with
 | nil=>exact h
 | cons v V ih=>
  simp only [blksV]
  split
  ·exact ih
  ·exact ⟨Jt5o,ih⟩
theorem Jt5j{H:List Blk}{B q n:Nat}{V:List VL}(h:B+q+(blksV V).length≤n):WkB H n (.mem (cellsV B q V)) (.mem (cellsV B q V)):=
 .same (Jtap (B:=B) (B':=B) (n:=n-B) V q (by omega) fun j hj=>by rw [if_pos (by omega)])
def keepV(vs:List Int)(v:VL):VL:=⟨v.e,keepL vs v.M,List.replicate (v.M.length-(keepL vs v.M).length) zeroP⟩
def keepVs(ls:Nat→List Int)(V:List VL)(k:Nat):List VL:=V.mapIdx fun i v=>if i<k then keepV (ls i) v else v
theorem Jtly(ls:Nat→List Int)(V:List VL):keepVs ls V 0=V:=by
 unfold keepVs;apply List.ext_getElem?;intro i;simp
theorem Jtm0{ls:Nat→List Int}{V:List VL}{k:Nat}{v:VL}(h:V[k]?=some v):(keepVs ls V k)[k]?=some v:=by
 unfold keepVs;simp [List.getElem?_mapIdx,h]
theorem Jtm4{ls:Nat→List Int}{V:List VL}{k:Nat}{v:VL}(h:V[k]?=some v):keepVs ls V (k+1)=(keepVs ls V k).set k (keepV (ls k) v):=by
 unfold keepVs
 apply List.ext_getElem?
 intro i
 have hlt:=(lgS.1 h).1
 by_cases hi:i=k
 ·subst hi
  rw [List.getElem?_set_self (by simpa using hlt),List.getElem?_mapIdx,h];simp
 ·rw [List.getElem?_set_ne (Ne.symm hi),List.getElem?_mapIdx,List.getElem?_mapIdx]
  by_cases h2:i<k
  ·simp [h2,show i<k+1 by omega]
  ·simp [h2,show ¬ i<k+1 by omega]
theorem Jtm1(ls:Nat→List Int)(V:List VL)(k:Nat):(keepVs ls V k).length=V.length:=by simp [keepVs]
theorem Jt84{v v':VL}(h0:v.e=true)(he:v'.e=true):∀ {V:List VL} {k:Nat},V[k]?=some v→blksV (V.set k v')=blksV V:=by
 intro V
 induction V with
 | nil=>intro k h;simp at h
 | cons w V ih=>
  intro k h
  cases k with
  | zero=>simp at h;subst h;simp [blksV,he,h0]
  | succ k=>
   simp only [List.getElem?_cons_succ] at h
   simp only [blksV,List.set_cons_succ,ih h]
theorem Jtlz{ls:Nat→List Int}{V:List VL}:∀ {k:Nat},k≤V.length→(blksV (keepVs ls V k)).length=(blksV V).length:=by
 intro k
 induction k with
 | zero=>intro _;rw [Jtly]
 | succ k ih=>
  intro hk
  obtain ⟨v,hv⟩:∃ v,V[k]?=some v:=⟨_,lgE (by omega)⟩
  rw [Jtm4 hv,←ih (by omega)]
  have hg:=Jtm0 (ls:=ls) hv
  cases he:v.e with
  | true=>rw [Jt84 he (by simp [keepV,he]) hg]
  | false=>rw [←Jt83 he (by simp [keepV,he]) hg];simp
theorem Jtm7(vs:List Int)(l:List Pair):keptP (fun q=>!decide (q.v∈vs)) l=keepL vs l:=by
 unfold keptP keepL;congr 1;funext x;simp
theorem Jtm3{c:Cert}{ls:Nat→List Int}(hls:∀ i,ls i=((liveIn c.S)[i]?).getD []):((keepVs ls (vl0 c.W) c.W.length).map fun v=>[pairsD v.M])=wRows (liveC c).W:=by
 unfold keepVs wRows liveC liveTo
 apply List.ext_getElem?
 intro i
 simp only [lgM,List.getElem?_mapIdx,vl0]
 cases h:c.W[i]? with
 | none=>rfl
 | some l=>
  have hlt:=(lgS.1 h).1
  simp [hlt,keepV,hls]
theorem Jtm2{ls:Nat→List Int}{V:List VL}(h:∀ v∈V,v.e=true→v.M=[]) (k:Nat):∀ v∈keepVs ls V k,v.e=true→v.M=[]:=by
 intro v hv he
 obtain ⟨i,hi⟩:=List.getElem?_of_mem hv
 unfold keepVs at hi
 rw [List.getElem?_mapIdx] at hi
 cases h2:V[i]? with
 | none=>rw [h2] at hi;cases hi
 | some w=>
  rw [h2] at hi
  have hm:=h w (lmG h2)
  simp only [Option.map_some,Option.some.injEq] at hi
  split at hi
  ·subst hi
   have:=hm he
   simp [keepV,this,keepL]
  ·subst hi;exact hm he
def emptyC:Cert:=⟨⟨0,0,[]⟩,⟨0,0,0,[]⟩,[]⟩
section
variable {P:Program} {p:Nums}
theorem Jtd8(A:All P p){K:ASt→Prop}{QP:AV→ASt→Prop}{dst:Option Nat}{E:List (Nat × AV)} {H:List Blk} {j s g:Nat} {b1:Blk} {f:Pair→Bool} (hg:DelOk P g b1 f) (l:List Pair) (h0:l.length<1000000) (hjs:j≠s) (hj:H[j]?=some b1) (hs:H[s]?=some (.mem (Jt16d (l.map Pair.row))))
  (hK:K (put dst (.hsl s 0 2 (keptP f l).length) ⟨unview E,H.set s (.mem (Jt16d ((keptP f l++List.replicate (l.length-(keptP f l).length) zeroP).map Pair.row)))⟩)) :
  AWcall P false p.Yf36 [.hsl s 0 2 l.length,.fn (.func g) [] [.ptr j 0]] dst K QP ⟨E,H⟩:=by
 have e1:H.set j b1=H:=by rw [←(lgS.1 hj).2];exact List.set_getElem_self _
 refine Jt19 [j,s] (cargs:=[.hsl 1 0 2 l.length,.fn (.func g) [] [.ptr 0 0]]) (Hp:=[b1,.mem (Jt16d (l.map Pair.row))]) (Jt19o A hg l h0) (by simp [hjs]) (by simp [renL,AV.ren,idx,hjs]) (by simp [picks,hj,hs]) (Jt15k hg.ren) (Jt15k hg.ren) rfl (y:=.hsl s 0 2 (keptP f l).length) (by simp [AV.ren,back]) ?_
 simp only [wback,e1]
 exact hK
theorem Jtd9(A:All P p){K:ASt→Prop}{QP:AV→ASt→Prop}{dst:Option Nat}{E:List (Nat × AV)} {H:List Blk} {j g:Nat} {b1:Blk} (hren:∀ ρ:Nat→Option Nat,b1.ren ρ=some b1) (hj:H[j]?=some b1)
  (hK:K (put dst (.d (.sl [])) ⟨unview E,H⟩)):AWcall P false p.Yf36 [.d (.sl []),.fn (.func g) [] [.ptr j 0]] dst K QP ⟨E,H⟩:=by
 have e1:H.set j b1=H:=by rw [←(lgS.1 hj).2];exact List.set_getElem_self _
 refine Jt19 [j] (cargs:=[.d (.sl []),.fn (.func g) [] [.ptr 0 0]]) (Hp:=[b1]) (Jt19p A hren) (by simp) (by simp [renL,AV.ren,idx]) (by simp [picks,hj]) (Jt15j hren) (Jt15j hren) rfl (y:=.d (.sl [])) rfl ?_
 simp only [wback,e1]
 exact hK
end
section
variable {P:Program} {p:Nums}
set_option maxHeartbeats 8000000 in
theorem Jt1ge(A:All P p)(S:SortOk P p)(C:ClosOk P p)(SI:SortIOk P p)(c:Cert)(okc:okCert c)(hfew:fewC c=true)(hs:SmallC c)(hacc:(Jt15v c).err=0) (okv:OkV c.S) (hlw:c.W.length=c.S.blocks.length) (hr0:c.S.regs≤10000) (hr1:∀ l∈liveIn c.S,l.length<1000000) :
  Jt51 P p.Yf32 [c.av] [] fun o H'=>o=.ret (.tup [.agg (certW c 5),AI 0])∧H'=[.dead,.dead,.dead,.dead,.dead,.mem (Jt16d (wRows (liveC c).W))]:=by
 refine A.Yf32.run rfl fun R hR=>?_
 have hck:=Jtbp A S C c okc hfew
 have hin:=Jto6 A SI c.S okv hr0
 have hcl:=fun (K:ASt→Prop) QP dst st=>Jtc8 A (K:=K) (QP:=QP) (dst:=dst) (st:=st) c hs.h0 hs.h1 hs.h2 hs.h3 hs.h4 hs.h5
 obtain ⟨V,hV⟩:∃ V,V=vl0 c.W:=⟨_,rfl⟩
 obtain ⟨sR,hsR⟩:∃ x,x=c.S.blocks.map Block.row:=⟨_,rfl⟩
 obtain ⟨tR,htR⟩:∃ x,x=c.T.blocks.map MBlock.row:=⟨_,rfl⟩
 obtain ⟨wR,hwR⟩:∃ x,x=c.W.map fun l=>[pairsD l]:=⟨_,rfl⟩
 obtain ⟨L,hL⟩:∃ L,L=liveIn c.S:=⟨_,rfl⟩
 rw [←hL] at hr1
 have hLl:L.length=c.W.length:=by rw [hL,hlw];simp [liveIn]
 obtain ⟨ls,hls⟩:∃ ls:Nat→List Int,ls=fun i=>(L[i]?).getD []:=⟨_,rfl⟩
 have hrows:=Jtm3 (c:=c) (ls:=ls) (fun i=>by rw [hls,hL])
 rw [←hV] at hrows
 simp only [Cert.av,Func.av,witD,certW,Rep.av,hacc,←hsR,←htR,←hwR,←hV,←hL] at hR hcl hck hin ⊢
 obtain ⟨n0,hn0⟩:∃ n0,n0=(blksV V).length:=⟨_,rfl⟩
 have hVl:V.length=c.W.length:=by rw [hV];simp [vl0]
 have hok:∀ v∈V,v.e=true→v.M=[]:=by rw [hV];exact vl0_ok _
 have e7:n0+1+1+1+1+1+1=n0+6:=rfl
 (simp (maxSteps:=9^6)[Jtkt])
 (refine Jt17 hck (by rfl) (by rfl) ?_)
 (simp (maxSteps:=9^6)[])
 refine hcl _ _ _ _ ?_
 obtain ⟨Y,hY⟩:∃ Y,Y=blksV V:=⟨_,rfl⟩
 have hYl:Y.length=n0:=by rw [hY,hn0]
 rw [←hY]
 have a6:=fun a b c d e f z T=>at6 (a:=a) (b:=b) (c:=c) (d:=d) (e:=e) (f:=f) (z:=z) (T:=T) hYl
 have s6:=fun a b c d e f z y T=>st6 (a:=a) (b:=b) (c:=c) (d:=d) (e:=e) (f:=f) (z:=z) (y:=y) (T:=T) hYl
 (simp (maxSteps:=9^6)[hYl,e7,a6,s6])
 (refine Jt17 hin (by rfl) (by rfl) ?_)
 (simp (maxSteps:=9^6)[listsD,hLl])
 obtain ⟨LR,hLR⟩:∃ LR,LR=L.map fun x=>[intsD x]:=⟨_,rfl⟩
 have hLRl:LR.length=c.W.length:=by rw [hLR,List.length_map,hLl]
 obtain ⟨b0,hb0⟩:∃ b0:Blk,b0=.mem [AI c.S.args,AI c.S.regs,.d (.sl sR),AI c.T.args,AI c.T.regs,AI c.T.slots,.d (.sl tR),.d (.sl wR)]:=⟨_,rfl⟩
 have hr0:∀ ρ:Nat→Option Nat,b0.ren ρ=some b0:=fun ρ=>by rw [hb0];rfl
 have hs0:∀ (H:List Blk) n,WkB H n b0 b0:=fun H n=>by rw [hb0];exact .same rfl
 have hs1:∀ (H:List Blk) n,WkB H n (.mem [AI 0,AI 0,.nils,AI 0,AI 0,AI 0,.nils,.nils]) (.mem [AI 0,AI 0,.nils,AI 0,AI 0,AI 0,.nils,.nils]):=fun H n=>.same rfl
 have hwkF:∀ (U:List VL) (k:Nat) (E:List (Nat × AV)) (c2 c3 c4:Blk) (T:List Blk),(blksV U).length=n0→get E 21=some (AI k)→get E 20=some (AI c.W.length)→get E 19=some (.d (.sl LR))→get E 5=some (.ptr (n0+6) 0)→get E 2=some (.ptr 1 0)→get E 1=some (.ptr 0 0)→
   Wk 0 ⟨E,b0::.mem [AI 0,AI 0,.nils,AI 0,AI 0,AI 0,.nils,.nils]::c2::c3::c4::.mem (cellsV 6 0 U)::(blksV U++.mem [AI c.S.args,AI c.S.regs,.d (.sl sR),AI c.T.args,AI c.T.regs,AI c.T.slots,.d (.sl tR),.hsl 5 0 1 c.W.length]::T)⟩
    ⟨[(21,AI k),(20,AI c.W.length),(19,.d (.sl LR)),(5,.ptr (n0+6) 0),(2,.ptr 1 0),(1,.ptr 0 0)],b0::.mem [AI 0,AI 0,.nils,AI 0,AI 0,AI 0,.nils,.nils]::.dead::.dead::.dead::.mem (cellsV 6 0 U)::(blksV U++[.mem [AI c.S.args,AI c.S.regs,.d (.sl sR),AI c.T.args,AI c.T.regs,AI c.T.slots,.d (.sl tR),.hsl 5 0 1 c.W.length]])⟩:=by
  intro U k E c2 c3 c4 T hU g1 g2 g3 g4 g5 g6
  refine Wk.of ⟨⟨_,g1,Jt1l6 rfl⟩,⟨_,g2,Jt1l6 rfl⟩,⟨_,g3,Jt1l6 rfl⟩,⟨_,g4,Jt1l6 ?_⟩,⟨_,g5,Jt1l6 rfl⟩,⟨_,g6,Jt1l6 rfl⟩,trivial⟩ ⟨hs0 _ _,hs1 _ _,.dead _,.dead _,.dead _,Jt5j ?_,(by refine Jt5u ?_ U;refine ⟨.same ?_,?_⟩;(· simp [renL,AV.ren]);(· simp [WkHs]))⟩ (Nat.zero_le _)
  ·simp [AV.ren,hU]
  ·simp;omega
 rw [←hLR,←hb0]
 obtain ⟨nW,hnW⟩:∃ nW,nW=c.W.length:=⟨_,rfl⟩
 refine Jtf (fun k:Nat=>⟨[(21,AI k),(20,AI c.W.length),(19,.d (.sl LR)),(5,.ptr (n0+6) 0),(2,.ptr 1 0),(1,.ptr 0 0)],b0::.mem [AI 0,AI 0,.nils,AI 0,AI 0,AI 0,.nils,.nils]::.dead::.dead::.dead::.mem (cellsV 6 0 (keepVs ls V k))::(blksV (keepVs ls V k)++[.mem [AI c.S.args,AI c.S.regs,.d (.sl sR),AI c.T.args,AI c.T.regs,AI c.T.slots,.d (.sl tR),.hsl 5 0 1 c.W.length]])⟩) (fun k=>k≤c.W.length) (fun k=>c.W.length-k) 0 (by simp) ?_ ?_
 ·rw [Jtly,hY]
  exact hwkF V 0 _ _ _ _ _ (by rw [←hY];exact hYl) rfl rfl rfl rfl rfl rfl
 intro k hk N hN
 have hfin:=fun st' h1 h2 h3=>hN st' (k+1) h1 h2 h3
 clear hN
 obtain ⟨U,hU⟩:∃ U,U=keepVs ls V k:=⟨_,rfl⟩
 obtain ⟨Yk,hYk⟩:∃ Yk,Yk=blksV U:=⟨_,rfl⟩
 have hYkl:Yk.length=n0:=by rw [hYk,hU,Jtlz (by omega),hn0]
 have hUl:U.length=c.W.length:=by rw [hU,Jtm1,hVl]
 have hUl2:(cellsV 6 0 U).length=c.W.length:=by rw [Jtao,hUl]
 have hUok:∀ v∈U,v.e=true→v.M=[]:=by rw [hU];exact Jtm2 hok k
 rw [←hU,←hYk]
 have b6:=fun a b c d e f z T=>at6 (a:=a) (b:=b) (c:=c) (d:=d) (e:=e) (f:=f) (z:=z) (T:=T) hYkl
 have t6:=fun a b c d e f z y T=>st6 (a:=a) (b:=b) (c:=c) (d:=d) (e:=e) (f:=f) (z:=z) (y:=y) (T:=T) hYkl
 have b7:=fun a b c d e f z x T=>at7 (a:=a) (b:=b) (c:=c) (d:=d) (e:=e) (f:=f) (z:=z) (x:=x) (T:=T) hYkl
 have t7:=fun a b c d e f z x y T=>st7 (a:=a) (b:=b) (c:=c) (d:=d) (e:=e) (f:=f) (z:=z) (x:=x) (y:=y) (T:=T) hYkl
 have e71:n0+1+1+1+1+1+1+1=n0+7:=rfl
 (simp (maxSteps:=9^6)[])
 ((first|refine Xc ?_ ?_|refine Xo ?_ ?_)<;>intro h6<;>try simp only [Xz,Xy] at h6)
 ·have hkl:k<c.W.length:=by omega
  have hw:=Jt1le (k:=k) (by have:=hs.h4;omega)
  obtain ⟨l,hl⟩:∃ l,c.W[k]?=some l:=⟨_,lgE hkl⟩
  have hll:=hs.h5 l (lmG hl)
  have hvi:V[k]?=some ⟨l.isEmpty,l,[]⟩:=by rw [hV];exact Jt1ft hl
  have hui:U[k]?=some ⟨l.isEmpty,l,[]⟩:=by rw [hU];exact Jtm0 hvi
  obtain ⟨x,hx⟩:∃ x,L[k]?=some x:=⟨_,lgE (by omega)⟩
  have hxl:x.length<1000000:=hr1 x (lmG hx)
  have hlsk:ls k=x:=by rw [hls];simp [hx]
  have hLRk:LR[k]?=some [intsD x]:=by rw [hLR,lgM,hx];rfl
  have hnx:keepVs ls V (k+1)=U.set k (keepV x ⟨l.isEmpty,l,[]⟩):=by rw [Jtm4 hvi,hU,hlsk]
  simp only [hnx] at hfin
  have hdel:=Jto0 A x hxl
  have hcg:=Jtan (B:=6) (q:=0) hui
  have hspl:∀ x,(cellsV 6 0 U).take k++x::(cellsV 6 0 U).drop (k+1)=(cellsV 6 0 U).set k x:=fun x=>(Jt17o (by omega)).symm
  have hcl1:k+1≤(cellsV 6 0 U).length:=by omega
  by_cases hl0:l=[]
  ·subst hl0
   have hcg:(cellsV 6 0 U)[k]?=some (.d (.sl [])):=hcg
   have hset:(cellsV 6 0 U).set k (.d (.sl []))=cellsV 6 0 U:=by
    have:=(lgS.1 hcg)
    rw [←this.2];exact List.set_getElem_self _
   have hui:U[k]?=some ⟨true,[],[]⟩:=hui
   have hUs:U.set k (keepV x ⟨true,[],[]⟩)=U:=by
    have h2:=(lgS.1 hui)
    have h3:keepV x ⟨true,[],[]⟩=⟨true,[],[]⟩:=rfl
    rw [h3,←h2.2,List.set_getElem_self]
   simp only [List.isEmpty_nil] at hfin
   rw [hUs,←hYk] at hfin
   have hwk2:=hwkF U (k+1)
   rw [←hYk] at hwk2
   (simp (maxSteps:=9^6)[h6,hLRk,hYkl,e71,b6,t6,b7,t7,hcg])
   repeat' (first | (with_reducible refine And.intro ?_ ?_) | (refine Jtd9 A (j:=n0+7) hdel.ren (b7 _ _ _ _ _ _ _ _ _) ?_) | (refine Jte ?_) | (refine hfin _ hkl (hwk2 _ _ _ _ _ hYkl rfl rfl rfl rfl rfl rfl) (by omega)) | (simp (maxSteps:=9^6)[hw,hkl,hcl1,hYkl,e71,b6,t6,b7,t7,hcg,hset,hspl]))
  ·have hle:l.isEmpty=false:=by simpa using hl0
   rw [hle] at hui hfin
   have hcg:(cellsV 6 0 U)[k]?=some (.hsl (posV U k+6) 0 2 l.length):=by
    rw [hcg];simp [VL.cell,hle,Nat.add_comm]
   obtain ⟨kp,hkp⟩:∃ kp,kp=keepL x l:=⟨_,rfl⟩
   obtain ⟨v',hv'⟩:∃ v':VL,v'=⟨false,kp,List.replicate (l.length-kp.length) zeroP⟩:=⟨_,rfl⟩
   have hkv:keepV x ⟨false,l,[]⟩=v':=by rw [hv',hkp];rfl
   rw [hkv] at hfin
   have hset:(cellsV 6 0 U).set k (.hsl (posV U k+6) 0 2 kp.length)=cellsV 6 0 (U.set k v'):=by
    rw [←Jtaq (v':=v') (by rw [hv']) hui,hv'];simp [VL.cell,Nat.add_comm]
   have hbg:=Jt81 hui rfl
   have hbs:=Jt83 (v':=v') rfl (by rw [hv']) hui
   have hpl:=Jtxz hui rfl
   have hwk2:=hwkF (U.set k v') (k+1)
   rw [←hbs] at hfin hwk2
   rw [←hYk] at hbg hpl hfin hwk2
   obtain ⟨Y2,hY2⟩:∃ Y2,Y2=Yk.set (posV U k) v'.blk:=⟨_,rfl⟩
   rw [←hY2] at hfin hwk2
   have hY2l:Y2.length=n0:=by rw [hY2,List.length_set,hYkl]
   have d6:=fun a b c d e f z T=>at6 (a:=a) (b:=b) (c:=c) (d:=d) (e:=e) (f:=f) (z:=z) (T:=T) hY2l
   have v6:=fun a b c d e f z y T=>st6 (a:=a) (b:=b) (c:=c) (d:=d) (e:=e) (f:=f) (z:=z) (y:=y) (T:=T) hY2l
   have d7:=fun a b c d e f z x T=>at7 (a:=a) (b:=b) (c:=c) (d:=d) (e:=e) (f:=f) (z:=z) (x:=x) (T:=T) hY2l
   have hq:∀ T:List Blk,(Yk++T)[posV U k]?=some (.mem (Jt16d (l.map Pair.row))):=fun T=>by
    rw [lgA hpl,hbg];simp [VL.blk]
   have hqs:∀ T:List Blk,(Yk++T).set (posV U k) (.mem (Jt16d ((kp++List.replicate (l.length-kp.length) zeroP).map Pair.row)))=Y2++T:=fun T=>by
    rw [List.set_append_left _ _ hpl,hY2,hv'];rfl
   have hdc:=fun (K:ASt→Prop) QP dst E b z T=>Jtd8 A (K:=K) (QP:=QP) (dst:=dst) (E:=E) (j:=n0+7) (s:=posV U k+6) (H:=b0::b::.dead::.dead::.dead::.mem (cellsV 6 0 U)::(Yk++z::.mem [.d (intsD x)]::T)) hdel l hll (by omega) (b7 _ _ _ _ _ _ _ _ _) (hq _)
   rw [Jtm7,←hkp] at hdc
   simp only [set6,hqs] at hdc
   (simp (maxSteps:=9^6)[h6,hLRk,hYkl,e71,b6,t6,b7,t7,hcg])
   repeat' (first | (with_reducible refine And.intro ?_ ?_) | (refine hdc _ _ _ _ _ _ _ ?_) | (refine Jte ?_) | (refine hfin _ hkl (hwk2 _ _ _ _ _ hY2l rfl rfl rfl rfl rfl rfl) (by omega)) | (simp (maxSteps:=9^6)[hw,hkl,hcl1,hYkl,e71,b6,t6,b7,t7,d6,v6,d7,hcg,hset,hspl]))
 ·have hk':k=c.W.length:=by omega
  have hUe:U=keepVs ls V c.W.length:=by rw [hU,hk']
  rw [←hUe] at hrows
  have hkn:¬ (k<c.W.length):=by omega
  (simp (maxSteps:=9^6)[hkn,b6,t6])
  refine hR _ _ (Jt58 (.tup [.agg [AI c.S.args,AI c.S.regs,.d (.sl sR),AI c.T.args,AI c.T.regs,AI c.T.slots,.d (.sl tR),.hsl 5 0 1 c.W.length],AI 0]) (.tup [.agg [AI c.S.args,AI c.S.regs,.d (.sl sR),AI c.T.args,AI c.T.regs,AI c.T.slots,.d (.sl tR),.hsl 5 0 1 c.W.length],AI 0]) [.dead,.dead,.dead,.dead,.dead,.mem (Jt16d (U.map fun v=>[pairsD v.M]))] rfl ?_ ⟨rfl,by rw [hrows]⟩)
  rw [hYk]
  refine Wk.of ⟨⟨_,rfl,Jt1l6 rfl⟩,trivial⟩ ⟨.dead _,.dead _,.dead _,.dead _,.dead _,Jt5i (Nat.le_refl _) hUok (fun j w hj=>?_),by simp [WkHs]⟩ (Nat.zero_le _)
  show (_::_::_::_::_::_::(blksV U++_):List Blk)[6+(0+j)]?=some w
  rw [Nat.zero_add,Nat.add_comm 6 j]
  show (blksV U++_)[j]?=some w
  rw [lgA (lgS.1 hj).1];exact hj
end
end Go.AE
set_option maxRecDepth 8000
namespace Go.AE
open Go
theorem Jt51.wk2{P:Program}{f:Nat}{args:List AV}{x y:AV}{Hc Hd:List Blk}(h:Jt51 P f args [] fun o H'=>o=.ret x∧H'=Hc) (hwk:Wk 0 ⟨[(0,x)],Hc⟩ ⟨[(0,y)],Hd⟩):Jt51 P f args [] fun o H'=>o=.ret y∧H'=Hd:=by
 intro g vs w hvs hs
 refine (h g vs w hvs hs).mono ?_
 rintro e' w' ⟨o,H',g',v,⟨rfl,rfl⟩,he,hsim,htr,hφ,hlen,hmine⟩
 obtain ⟨h1,h2,h3,h4⟩:=hsim.weak hwk
 exact ⟨.ret y,Hd,_,v,⟨rfl,rfl⟩,he,h1,htr.trans h2 hmine,fun b r hb=>absurd hb (by simp),Nat.zero_le _,fun r hr=>hmine r (h3 r hr)⟩
theorem Jtd{P:Program}{m:Nat}{Q:AExit→ASt→Prop}{st:ASt}{S:Type}(F:S→ASt)(Inv:S→Prop)(μ:S→Nat){id:Nat}{a b:IC}
  (hb:∀ s,Inv s→∀ N:ASt→Prop,(∀ st' s',Inv s'→Wk m st' (F s')→μ s'<μ s→N st')→AW P m b (AExit.jump id N Q) (F s))
  (ha:∀ N:ASt→Prop,(∀ st' s',Inv s'→Wk m st' (F s')→N st')→AW P m a (AExit.jump id N Q) st):AW P m (.jump id a b) Q st:=by
 refine ⟨S,fun s st=>Inv s∧F s=st,μ,ha _ fun st' s' h1 h2=>⟨s',_,h2,h1,rfl⟩,?_⟩
 rintro s st ⟨hI,rfl⟩
 exact hb s hI _ fun st' s' h1 h2 h3=>⟨s',_,h2,⟨h1,rfl⟩,h3⟩
section
variable {id i:Nat} {J:ASt→Prop} {Q:AExit→ASt→Prop} {st:ASt} {x:AV}
@[simp] theorem Jtlu:AExit.jump id J Q .normal st↔Q .normal st:=Iff.rfl
@[simp] theorem Jtlw:AExit.jump id J Q .ret st↔Q .ret st:=Iff.rfl
@[simp] theorem Jtlv:AExit.jump id J Q (.panic x) st↔Q (.panic x) st:=Iff.rfl
@[simp] theorem Jtlt:AExit.jump id J Q (.exit i) st↔if gB≤i then i=id∧J st else Q (.exit i) st:=Iff.rfl
end
attribute [simp] gB
theorem Jt18l{P:Program}{p:Nums}(A:All P p)(l:List Pair)(h0:l.length<1000000):Jt51 P p.Yff [.d (pairsD l)] [] fun o H'=>o=.ret (.d (pairsD l))∧H'=[]:=by
 by_cases hl:l=[]
 ·subst hl;exact Jt18m A
 ·refine (Jt18k A l hl h0).freeze (.hsl 0 0 2 l.length (Jt16d (l.map Pair.row)) (l.map Pair.row) rfl (Nat.zero_le _) ?_ (by simp) (Jt16t fun _=>rfl))
  rw [List.drop_zero,show l.length*2=(Jt16d (l.map Pair.row)).length by rw [Jt16f],List.take_length];rfl
structure Acc3 (c:Cert):Prop where
 acc:AccC c
 few:fewC c=true
 okm:∀ b∈c.T.blocks,okM b
 okw:okW c.W
theorem Jtfr{c:Cert}:fewC c=true↔few c.S=true∧fewM c.T=true∧c.W.length≤40∧∀ l∈c.W,l.length≤400:=by
 unfold fewC fewW;simp [Bool.and_eq_true,and_assoc]
theorem sm_few{a b:Cert}(h:Sm a b)(hb:fewC b=true):fewC a=true:=by
 rw [Jtfr] at hb ⊢
 obtain ⟨h1,h2,h3,h4⟩:=hb
 refine ⟨by rw [h.S];exact h1,by rw [h.T];exact h2,by rw [h.len];exact h3,fun l hl=>?_⟩
 obtain ⟨i,hi⟩:=List.getElem?_of_mem hl
 obtain ⟨m,hm⟩:∃ m,b.W[i]?=some m:=⟨_,lgE (by rw [←h.len];exact (lgS.1 hi).1)⟩
 exact Nat.le_trans (h.sub i l m hi hm).length_le (h4 m (lmG hm))
theorem sm_okw{a b:Cert}(h:Sm a b)(hb:okW b.W):okW a.W:=by
 intro l hl q hq
 obtain ⟨i,hi⟩:=List.getElem?_of_mem hl
 obtain ⟨m,hm⟩:∃ m,b.W[i]?=some m:=⟨_,lgE (by rw [←h.len];exact (lgS.1 hi).1)⟩
 exact hb m (lmG hm) q ((h.sub i l m hi hm).subset hq)
theorem Acc3.okc{c:Cert}(h:Acc3 c):okCert c:=Jtug h.few h.okm h.okw
theorem Jt1a4{c:Cert}(h:fewC c=true):SmallC c:=by
 obtain ⟨h1,h2,h3,h4⟩:=Jtfr.1 h
 obtain ⟨f1,f2,f3,f4⟩:=Jtfs.1 h1
 simp only [fewM,Bool.and_eq_true,decide_eq_true_eq,List.all_eq_true] at h2
 exact ⟨by omega,fun b hb=>by have:=f3 b hb;omega,by omega,fun b hb=>by have:=h2.1.2 b hb;omega,by omega,fun l hl=>by have:=h4 l hl;omega⟩
theorem Acc3.sm{a b:Cert}(h:Acc3 b)(ha:AccC a)(hs:Sm a b):Acc3 a:=⟨ha,sm_few hs h.few,by rw [hs.T];exact h.okm,sm_okw hs h.okw⟩
theorem Acc3.try{c:Cert}(h:Acc3 c){i:Nat}(hi:i<c.W.length)(q:Pair):Acc3 (tryC i c q)∧Sm (tryC i c q) c:=⟨h.sm (Jt1fd h.acc hi q).1 (Jt1fd h.acc hi q).2.1,(Jt1fd h.acc hi q).2.1⟩
theorem Acc3.tries{c:Cert}(h:Acc3 c){i:Nat}(hi:i<c.W.length)(ps:List Pair):Acc3 (ps.foldl (tryC i) c)∧Sm (ps.foldl (tryC i) c) c:=⟨h.sm (Jt1fb ps h.acc hi).1 (Jt1fb ps h.acc hi).2.1,(Jt1fb ps h.acc hi).2.1⟩
theorem Acc3.passes{c:Cert}(h:Acc3 c)(k:Nat)(hk:k≤c.W.length):Acc3 ((List.range k).foldl passB c)∧Sm ((List.range k).foldl passB c) c:=by
 have:=Jtxm (List.range k) h.acc (fun i hi=>by have:=List.mem_range.1 hi;omega)
 exact ⟨h.sm this.1 this.2.1,this.2.1⟩
def certB(c:Cert):Blk:=.mem [AI c.S.args,AI c.S.regs,.d (.sl (c.S.blocks.map Block.row)),AI c.T.args,AI c.T.regs,AI c.T.slots,.d (.sl (c.T.blocks.map MBlock.row)),.d (.sl (wRows c.W))]
section
variable {P:Program} {p:Nums}
theorem Jt1h7(A:All P p)(c:Cert)(hs:SmallC c):Jt51 P p.Yf35 [c.av] [] fun o H'=>o=.ret c.av∧H'=[]:=by
 have h:=Jt1h8 A c hs.h0 hs.h1 hs.h2 hs.h3 hs.h4 hs.h5
 have h2:=h.wk2 (y:=.agg (certW c 3)) (Hd:=[.dead,.dead,.dead,.mem (Jt16d (wRows c.W))]) (by
  refine Wk.of ⟨⟨_,rfl,Jt1l6 rfl⟩,trivial⟩ ⟨.dead _,.dead _,.dead _,?_,by simp [WkHs]⟩ (Nat.zero_le _)
  have:=Jt5i (H:=.dead::.dead::.dead::.mem (cellsV 4 0 (vl0 c.W))::blksV (vl0 c.W)) (B:=4) (n:=4) (Nat.le_refl _) (V:=vl0 c.W) (q:=0) (vl0_ok _) (fun j k hj=>by rw [Nat.zero_add,Nat.add_comm 4 j,get4];exact hj)
  rw [Jt1fu] at this;exact this)
 exact h2.freeze (Jt63 rfl rfl)
end
section
variable {P:Program} {p:Nums}
set_option maxHeartbeats 4000000 in
theorem Jt1l1(A:All P p)(S:SortOk P p)(C:ClosOk P p)(c:Cert)(h:Acc3 c):Jt51 P p.Yf3a [c.av] [] fun o _=>o=.ret (passC c).av:=by
 have hW:c.W.length≤40:=(Jtfr.1 h.few).2.2.1
 rw [Jt7t c c rfl rfl]
 refine A.Yf3a.run rfl fun R hR=>?_
 obtain ⟨wR,hwR⟩:∃ x,x=wRows c.W:=⟨_,rfl⟩
 have hwl:wR.length=c.W.length:=by rw [hwR];simp [wRows]
 rw [←hwR]
 (simp (maxSteps:=9^6)[Jtl0,hwl])
 refine Jtf (fun k:Nat=>⟨[(10,AI k),(9,AI c.W.length),(2,.ptr 1 0),(1,.ptr 0 0)],[certB ((List.range k).foldl passB c),.mem [AI 0,AI 0,.nils,AI 0,AI 0,AI 0,.nils,.nils]]⟩) (fun k=>k≤c.W.length) (fun k=>c.W.length-k) 0 (by simp)
  (by rw [hwR];simp only [List.range_zero,List.foldl_nil,certB];(exact wkA)) ?_
 intro k hk N hN
 obtain ⟨h3,hsm⟩:=h.passes k hk
 obtain ⟨d,hd⟩:∃ d,d=(List.range k).foldl passB c:=⟨_,rfl⟩
 have hnext:(List.range (k+1)).foldl passB c=passB d k:=by rw [hd,List.range_succ,List.foldl_append];rfl
 have hfin:=fun st' h1 h2=>hN st' (k+1) h1 h2
 rw [hnext] at hfin
 rw [←hd] at h3 hsm ⊢
 have hdl:d.W.length=c.W.length:=hsm.len
 (simp (maxSteps:=9^6)[])
 ((first|refine Xc ?_ ?_|refine Xo ?_ ?_)<;>intro h6<;>try simp only [Xz,Xy] at h6)
 ·have hkl:k<c.W.length:=by omega
  have hw:=Jt1le (k:=k) (by omega)
  obtain ⟨l,hl⟩:∃ l,d.W[k]?=some l:=⟨_,lgE (by omega)⟩
  have hll:l.length≤400:=(Jtfr.1 h3.few).2.2.2 l (lmG hl)
  have hdk:(wRows d.W)[k]?=some [.sl (l.map Pair.row)]:=by unfold wRows;rw [lgM,hl];rfl
  have hpb:passB d k=l.foldl (tryC k) d:=by unfold passB;rw [hl];rfl
  have hcl:=(Jt18l A l (by omega)).mono fun _ _ h=>h.1
  obtain ⟨wD,hwD⟩:∃ x,x=wRows d.W:=⟨_,rfl⟩
  have hcb:certB d=.mem [AI d.S.args,AI d.S.regs,.d (.sl (d.S.blocks.map Block.row)),AI d.T.args,AI d.T.regs,AI d.T.slots,.d (.sl (d.T.blocks.map MBlock.row)),.d (.sl wD)]:=by rw [hwD];rfl
  rw [hcb]
  rw [←hwD] at hdk
  (simp (maxSteps:=9^6)[h6,hdk])
  (refine Jt17 hcl (by rfl) (by rfl) ?_)
  (simp (maxSteps:=9^6)[pairsD])
  refine Jtf (fun j:Nat=>⟨[(20,AI j),(19,AI l.length),(18,.d (.sl (l.map Pair.row))),(3,AI k),(10,AI k),(9,AI c.W.length),(2,.ptr 1 0),(1,.ptr 0 0)],[certB ((l.take j).foldl (tryC k) d),.mem [AI 0,AI 0,.nils,AI 0,AI 0,AI 0,.nils,.nils]]⟩) (fun j=>j≤l.length) (fun j=>l.length-j) 0 (by simp)
   (by simp only [List.take_zero,List.foldl_nil,hcb];(exact wkA)) ?_
  intro j hj N2 hN2
  obtain ⟨h4,hsm4⟩:=h3.tries (i:=k) (by omega) (l.take j)
  obtain ⟨u,hu⟩:∃ u,u=(l.take j).foldl (tryC k) d:=⟨_,rfl⟩
  rw [←hu] at h4 hsm4 ⊢
  have hul:u.W.length=c.W.length:=by rw [hsm4.len,hdl]
  (simp (maxSteps:=9^6)[])
  ((first|refine Xc ?_ ?_|refine Xo ?_ ?_)<;>intro h8<;>try simp only [Xz,Xy] at h8)
  ·have hjl:j<l.length:=by omega
   have hwj:=Jt1le (k:=j) (by omega)
   obtain ⟨q,hq⟩:∃ q,q=l[j]:=⟨_,rfl⟩
   have hb:l[j]?=some q:=by rw [hq];simp
   have hnx:(l.take (j+1)).foldl (tryC k) d=tryC k u q:=by rw [hu,List.take_add_one,hb,List.foldl_append];rfl
   have hf2:=fun st' h=>hN2 st' (j+1) hjl h (by omega)
   rw [hnx] at hf2
   have hrem:=Jt1gu A u (k:Int) q (Jt1a4 h4.few)
   rw [Jt15c u (by omega),Jt7t u u rfl rfl,Jt7t u (remC u k q) rfl rfl] at hrem
   obtain ⟨hr1,hr2⟩:=Jt159 h4.acc (i:=k) (by omega) q
   have hrs:=Jt15a (c:=u) (i:=k) (by omega) q
   have hrf:=sm_few hrs h4.few
   have hck:=Jtbp A S C (remC u k q) (Jtug hrf h4.okm (sm_okw hrs h4.okw)) hrf
   rw [Jt7t u (remC u k q) rfl rfl] at hck
   have htry:tryC k u q=if (Jt15v (remC u k q)).err=0 then remC u k q else u:=rfl
   obtain ⟨rr,hrr⟩:∃ rr,rr=Jt15v (remC u k q):=⟨_,rfl⟩
   rw [←hrr] at hck htry
   obtain ⟨wU,hwU⟩:∃ x,x=wRows u.W:=⟨_,rfl⟩
   obtain ⟨wV,hwV⟩:∃ x,x=wRows (remC u k q).W:=⟨_,rfl⟩
   have hcu:certB u=.mem [AI u.S.args,AI u.S.regs,.d (.sl (u.S.blocks.map Block.row)),AI u.T.args,AI u.T.regs,AI u.T.slots,.d (.sl (u.T.blocks.map MBlock.row)),.d (.sl wU)]:=by rw [hwU];rfl
   have hcv:certB (remC u k q)=.mem [AI u.S.args,AI u.S.regs,.d (.sl (u.S.blocks.map Block.row)),AI u.T.args,AI u.T.regs,AI u.T.slots,.d (.sl (u.T.blocks.map MBlock.row)),.d (.sl wV)]:=by rw [hwV];rfl
   rw [←hwU,←hwV] at hrem
   rw [←hwV] at hck
   rw [hcu]
   (simp (maxSteps:=9^6)[h8,hb,Pair.row])
   simp only [Pair.av,hq] at hrem
   (refine Jt17 hrem (by rfl) (by rfl) ?_)
   (simp (maxSteps:=9^6)[])
   (refine Jt17 hck (by rfl) (by rfl) ?_)
   (simp (maxSteps:=9^6)[Rep.av])
   by_cases hz:rr.err=0
   ·rw [if_pos hz] at htry
    rw [htry,hcv] at hf2
    have hzb:(rr.err==0)=true:=by simpa using hz
    (simp (maxSteps:=9^6)[hz,hzb,hwj])
    exact hf2 _ (by (exact wkA))
   ·rw [if_neg hz] at htry
    rw [htry,hcu] at hf2
    have hzb:(rr.err==0)=false:=by simpa using hz
    (simp (maxSteps:=9^6)[hz,hzb,hwj])
    exact hf2 _ (by (exact wkA))
  ·have hj':j=l.length:=by omega
   subst hj'
   rw [List.take_length,←hpb] at hu
   rw [←hu] at hfin
   obtain ⟨wU,hwU⟩:∃ x,x=wRows u.W:=⟨_,rfl⟩
   have hcu:certB u=.mem [AI u.S.args,AI u.S.regs,.d (.sl (u.S.blocks.map Block.row)),AI u.T.args,AI u.T.regs,AI u.T.slots,.d (.sl (u.T.blocks.map MBlock.row)),.d (.sl wU)]:=by rw [hwU];rfl
   rw [hcu] at hfin ⊢
   (simp (maxSteps:=9^6)[hw])
   exact hfin _ hkl (by (exact wkA)) (by omega)
 ·have hk':k=c.W.length:=by omega
  subst hk'
  have he:d=passC c:=hd
  obtain ⟨wD,hwD⟩:∃ x,x=wRows d.W:=⟨_,rfl⟩
  have hcb:certB d=.mem [AI d.S.args,AI d.S.regs,.d (.sl (d.S.blocks.map Block.row)),AI d.T.args,AI d.T.regs,AI d.T.slots,.d (.sl (d.T.blocks.map MBlock.row)),.d (.sl wD)]:=by rw [hwD];rfl
  rw [hcb]
  (simp (maxSteps:=9^6)[])
  refine hR _ _ (Jt57 _ rfl rfl ?_)
  rw [←he,Jt7t d d rfl rfl,hwD];rfl
end
end Go.AE
set_option maxRecDepth 8000
namespace Go.AE
open Go
theorem Jt1fs{c:Cert}(h:(Jt15v c).err=0):validZ c=0:=by
 unfold Jt15v at h
 by_cases hv:validZ c=0
 ·exact hv
 ·rw [if_pos hv] at h;exact h
structure Ok3 (c:Cert):Prop where
 few:fewC c=true
 okm:∀ b∈c.T.blocks,okM b
 okw:okW c.W
theorem Ok3.okc{c:Cert}(h:Ok3 c):okCert c:=Jtug h.few h.okm h.okw
theorem Ok3.acc{c:Cert}(h:Ok3 c)(he:(Jt15v c).err=0):Acc3 c:=⟨⟨Jt1fs he,fit_of (Jt1fs he) h.few,he⟩,h.few,h.okm,h.okw⟩
theorem Acc3.ok{c:Cert}(h:Acc3 c):Ok3 c:=⟨h.few,h.okm,h.okw⟩
theorem Jtt5:∀ (n m:Nat) (c:Cert),wTotal c.W<n→wTotal c.W<m→minC n c=minC m c:=by
 intro n
 induction n with
 | zero=>intro m c h;omega
 | succ n ih=>
  intro m c h1 h2
  obtain ⟨m,rfl⟩:∃ k,m=k+1:=⟨m-1,by omega⟩
  unfold minC
  split
  ·exact ih m _ (by omega) (by omega)
  ·rfl
def minZ(c:Cert):Cert:=minC (wTotal c.W+1) c
theorem Jtt8{c:Cert}(h:wTotal (passC c).W<wTotal c.W):minZ c=minZ (passC c):=by
 unfold minZ
 rw [show minC (wTotal c.W+1) c=minC (wTotal c.W) (passC c) by rw [minC,if_pos h]]
 exact Jtt5 _ _ _ h (by omega)
theorem Jtt7{c:Cert}(h:¬ wTotal (passC c).W<wTotal c.W):minZ c=passC c:=by
 unfold minZ;rw [minC,if_neg h]
theorem Jt1fv{c:Cert}(h:fewC c=true):wTotal c.W≤16000:=by
 obtain ⟨_,_,h3,h4⟩:=Jtfr.1 h
 have hwt:∀ w:List (List Pair),(∀ l∈w,l.length≤400)→wTotal w≤400*w.length:=by
  intro w
  induction w with
  | nil=>intro _;simp [wTotal]
  | cons l w ih=>
   intro h
   have h1:=h l (by simp)
   have h2:=ih fun x hx=>h x (by simp [hx])
   simp only [wTotal,List.map_cons,List.sum_cons,List.length_cons] at h2 ⊢
   omega
 have:=hwt c.W h4
 omega
section
variable {P:Program} {p:Nums}
theorem Jt1gg(A:All P p)(S:SortOk P p)(C:ClosOk P p)(SI:SortIOk P p)(c:Cert)(h:Acc3 c):Jt51 P p.Yf32 [c.av] [] fun o _=>o=.ret (.tup [(liveC c).av,AI 0]):=by
 have hf:=Jtfr.1 h.few
 obtain ⟨f1,f2,f3,f4⟩:=Jtfs.1 hf.1
 have hv:Jt14r c.S=0:=by
  have:=h.acc.v
  unfold validZ at this
  by_cases hc:Jt14r c.S=0
  ·exact hc
  ·rw [if_pos hc] at this;exact this
 have okv:=okV_of hf.1 hv
 have hin:=Jt1ge A S C SI c h.okc h.few (Jt1a4 h.few) h.acc.acc okv (by have:=h.acc.fit.lenW;omega) (by omega) (fun l hl=>by
  obtain ⟨i,hi⟩:=List.getElem?_of_mem hl
  unfold liveIn at hi
  rw [lgM] at hi
  obtain ⟨j,hj,rfl⟩:=omS.1 hi
  have:=Jtnu c.S j;omega)
 refine (hin.freeze (y:=.tup [(liveC c).av,AI 0]) ?_).mono fun _ _ h=>h.1
 have hl:(liveC c).W.length=c.W.length:=by simp [liveC,liveTo]
 rw [Jt7t c (liveC c) rfl rfl]
 exact Jt64 ⟨Jt63 hl rfl,.refl _ rfl,trivial⟩
theorem Jt1gf(A:All P p)(S:SortOk P p)(C:ClosOk P p)(c:Cert)(h:Ok3 c)(he:(Jt15v c).err≠0):Jt51 P p.Yf32 [c.av] [] fun o _=>o=.ret (.tup [emptyC.av,AI (Jt15v c).err]):=by
 have hck:=Jtbp A S C c h.okc h.few
 refine A.Yf32.run rfl fun R hR=>?_
 simp only [Cert.av,witD,Rep.av] at hck ⊢
 have heb:((Jt15v c).err==0)=false:=by simpa using he
 (simp (maxSteps:=9^6)[Jtkt])
 (refine Jt17 hck (by rfl) (by rfl) ?_)
 (simp (maxSteps:=9^6)[he,heb])
 refine hR _ _ (Jt58 (.tup [.agg [AI 0,AI 0,.nils,AI 0,AI 0,AI 0,.nils,.nils],AI (Jt15v c).err]) (.tup [emptyC.av,AI (Jt15v c).err]) [] rfl (Wk.of ⟨⟨_,rfl,.inl (Jt64 ⟨Jt62 ⟨.refl _ rfl,.refl _ rfl,.nild,.refl _ rfl,.refl _ rfl,.refl _ rfl,.nild,.nild,trivial⟩,.refl _ rfl,trivial⟩)⟩,trivial⟩ Jt5y (by simp)) rfl)
set_option maxHeartbeats 4000000 in
theorem Jt1gi(A:All P p)(S:SortOk P p)(C:ClosOk P p)(c:Cert)(h:Acc3 c):Jt51 P p.Yf33 [c.av] [] fun o _=>o=.ret (.tup [(minZ c).av,AI 0]):=by
 have hck:=Jtbp A S C c h.okc h.few
 have hcl:=(Jt1h7 A c (Jt1a4 h.few)).mono fun _ _ h=>h.1
 have hp:=fun (s:Cert) (hs:Acc3 s)=>Jt1l1 A S C s hs
 have hn:=fun (s:Cert) (hs:Acc3 s)=>Jt1gn A s (by have:=(Jtfr.1 hs.few).2.2.1;omega) (by have:=Jt1fv hs.few;omega)
 have hps:∀ s,Acc3 s→Acc3 (passC s):=fun s hs=>hs.sm (Jtxl hs.acc).1 (Jtxl hs.acc).2.1
 refine A.Yf33.run rfl fun R hR=>?_
 have hacc:=h.acc.acc
 (simp (maxSteps:=9^6)[Jtkv,Cert.av,witD])
 refine Jtd (fun s:Cert=>⟨[(5,.ptr 2 0),(2,.ptr 1 0),(1,.ptr 0 0)],[certB c,.mem [AI 0,AI 0,.nils,AI 0,AI 0,AI 0,.nils,.nils],certB s]⟩) (fun s=>Acc3 s∧minZ s=minZ c) (fun s=>wTotal s.W) (fun s hs N hN=>?_) (fun N hN=>?_)
 ·obtain ⟨hs3,hsm⟩:=hs
  have p1:=hp s hs3
  have n1:=hn s hs3
  have n2:=hn _ (hps s hs3)
  obtain ⟨u,hu⟩:∃ u,u=passC s:=⟨_,rfl⟩
  have hu3:=hps s hs3
  rw [←hu] at p1 n2 hu3
  have hb:=Jt1fv hs3.few
  have hb2:=Jt1fv hu3.few
  simp only [certB]
  rw [Jt7t s s rfl rfl] at p1 n1
  rw [Jt7t u u rfl rfl] at p1 n2
  (simp (maxSteps:=9^6)[])
  (refine Jt17 n1 (by rfl) (by rfl) ?_)
  (simp (maxSteps:=9^6)[])
  (refine Jt17 p1 (by rfl) (by rfl) ?_)
  (simp (maxSteps:=9^6)[])
  (refine Jt17 n2 (by rfl) (by rfl) ?_)
  (simp (maxSteps:=9^6)[])
  ((first|refine Xc ?_ ?_|refine Xo ?_ ?_)<;>intro h9<;>try simp only [Xz,Xy] at h9)
  ·(simp (maxSteps:=9^6)[h9])
   refine hN _ u ⟨hu3,?_⟩ (by simp only [certB];(exact wkA)) h9
   rw [←hsm,hu,←Jtt8 (by rw [←hu];exact h9)]
  ·(simp (maxSteps:=9^6)[h9])
   refine hR _ _ (Jt57 _ rfl rfl ?_)
   rw [←hsm,Jtt7 (by rw [←hu];exact h9),←hu,Jt7t u u rfl rfl];rfl
 ·have p1:=hp c h
  have n1:=hn c h
  have n2:=hn _ (hps c h)
  obtain ⟨u,hu⟩:∃ u,u=passC c:=⟨_,rfl⟩
  have hu3:=hps c h
  rw [←hu] at p1 n2 hu3
  have hb:=Jt1fv h.few
  have hb2:=Jt1fv hu3.few
  simp only [certB] at hN
  rw [Jt7t c c rfl rfl] at p1 n1 hck hcl
  rw [Jt7t u u rfl rfl] at p1 n2
  simp only [Rep.av,hacc] at hck
  have hwr:(c.W.map fun l=>[pairsD l])=wRows c.W:=rfl
  rw [hwr]
  (simp (maxSteps:=9^6)[])
  (refine Jt17 hck (by rfl) (by rfl) ?_)
  (simp (maxSteps:=9^6)[])
  (refine Jt17 hcl (by rfl) (by rfl) ?_)
  (simp (maxSteps:=9^6)[])
  (refine Jt17 n1 (by rfl) (by rfl) ?_)
  (simp (maxSteps:=9^6)[])
  (refine Jt17 p1 (by rfl) (by rfl) ?_)
  (simp (maxSteps:=9^6)[])
  (refine Jt17 n2 (by rfl) (by rfl) ?_)
  (simp (maxSteps:=9^6)[])
  ((first|refine Xc ?_ ?_|refine Xo ?_ ?_)<;>intro h9<;>try simp only [Xz,Xy] at h9)
  ·(simp (maxSteps:=9^6)[h9])
   refine hN _ u ⟨hu3,?_⟩ (by (exact wkA))
   rw [hu,←Jtt8 (by rw [←hu];exact h9)]
  ·(simp (maxSteps:=9^6)[h9])
   refine hR _ _ (Jt57 _ rfl rfl ?_)
   rw [Jtt7 (by rw [←hu];exact h9),←hu,Jt7t u u rfl rfl];rfl
end
end Go.AE
set_option maxRecDepth 8000
namespace Go.AE
open Go
def few25(c:Cert):Bool:=fewC c&&decide ((wTotal c.W:Int)≤24)&&decide ((c.W.length:Int)≤6)&&decide ((codeN c.S.blocks:Int)≤60)&&decide ((mcodeN c.T.blocks:Int)≤200)
theorem Jtfq{c:Cert}(h:few25 c=true):fewC c=true:=by
 simp only [few25,Bool.and_eq_true] at h;exact h.1.1.1.1
section
variable {P:Program} {p:Nums}
set_option maxHeartbeats 4000000 in
theorem Jtn5(A:All P p)(a b:Cert)(h:Sm a b)(hs:SmallC b):Jt51 P p.Yf34 [a.av,b.av] [] fun o _=>o=.ret (AB true):=by
 have c1:=Jt10h A b.S (by have:=hs.h0;omega) (fun x hx=>by have:=hs.h1 x hx;omega)
 have c2:=Jt127 A b.T (by have:=hs.h2;omega) (fun x hx=>by have:=hs.h3 x hx;omega)
 have hlen:=h.len
 have h4:=hs.h4
 obtain ⟨wA,hwA⟩:∃ x,x=wRows a.W:=⟨_,rfl⟩
 obtain ⟨wB,hwB⟩:∃ x,x=wRows b.W:=⟨_,rfl⟩
 have hal:wA.length=b.W.length:=by rw [hwA];simp [wRows,hlen]
 have hbl:wB.length=b.W.length:=by rw [hwB];simp [wRows]
 rw [Jt7t b a h.S h.T,Jt7t b b rfl rfl,←hwA,←hwB]
 simp only [Func.av,MFunc.av] at c1 c2
 obtain ⟨sR,hsR⟩:∃ x,x=b.S.blocks.map Block.row:=⟨_,rfl⟩
 obtain ⟨tR,htR⟩:∃ x,x=b.T.blocks.map MBlock.row:=⟨_,rfl⟩
 rw [←hsR] at c1 ⊢
 rw [←htR] at c2 ⊢
 refine A.Yf34.run rfl fun R hR=>?_
 (simp (maxSteps:=9^6)[Jtig])
 (refine Jt17 c1 (by rfl) (by rfl) ?_)
 (simp (maxSteps:=9^6)[])
 (refine Jt17 c2 (by rfl) (by rfl) ?_)
 (simp (maxSteps:=9^6)[hal,hbl])
 refine Jtf (fun k:Nat=>⟨[(5,AI k),(4,AB false),(3,.ptr 1 0),(2,.ptr 0 0)],[.mem [AI b.S.args,AI b.S.regs,.d (.sl sR),AI b.T.args,AI b.T.regs,AI b.T.slots,.d (.sl tR),.d (.sl wA)],.mem [AI b.S.args,AI b.S.regs,.d (.sl sR),AI b.T.args,AI b.T.regs,AI b.T.slots,.d (.sl tR),.d (.sl wB)]]⟩) (fun k=>k≤b.W.length) (fun k=>b.W.length-k) 0 (by simp) (by (exact wkA)) ?_
 intro k hk N hN
 (simp (maxSteps:=9^6)[hal])
 ((first|refine Xc ?_ ?_|refine Xo ?_ ?_)<;>intro h2<;>try simp only [Xz,Xy] at h2)
 ·have hkl:k<b.W.length:=by omega
  have hw:=Jt1le (k:=k) (by omega)
  obtain ⟨l,hl⟩:∃ l,a.W[k]?=some l:=⟨_,lgE (by omega)⟩
  obtain ⟨m,hm⟩:∃ m,b.W[k]?=some m:=⟨_,lgE (by omega)⟩
  have hsub:=h.sub k l m hl hm
  have hml:=hs.h5 m (lmG hm)
  have hll:=hsub.length_le
  have hwak:wA[k]?=some [pairsD l]:=by rw [hwA];simp [wRows,hl]
  have hwbk:wB[k]?=some [pairsD m]:=by rw [hwB];simp [wRows,hm]
  have cm:=Jt12n A l m (by omega) hml
  simp only [missA,Jttc (fun q hq=>hsub.subset hq),Option.getD_none,Option.isSome_none,Pair.av] at cm
  (simp (maxSteps:=9^6)[h2,hwak,hwbk])
  (refine Jt17 cm (by rfl) (by rfl) ?_)
  (simp (maxSteps:=9^6)[hw])
  exact hN _ (k+1) hkl (by (exact wkA)) (by omega)
 ·(simp (maxSteps:=9^6)[h2])
  (first|exact hR _ _ FrA|exact hR _ _ FnA)
set_option maxHeartbeats 1000000 in
theorem Jt14k(A:All P p)(c:Cert):Jt51 P p.Yf2y [c.av] [] fun o _=>o=.ret (AB (few25 c)):=by
 have cf:=Jt136 A c
 have c1:=fun (hf:fewC c=true)=>Jt14p A c (by have:=(Jtfr.1 hf).2.2.1;omega) (by have:=Jt1fv hf;omega)
 have c2:=fun (hf:fewC c=true)=>Jtz8 A c.S (by have:=(Jtfs.1 (Jtfr.1 hf).1).1;omega) (by have:=(Jtfs.1 (Jtfr.1 hf).1).2.2.2;omega)
 have c3:=fun (hf:fewC c=true)=>Jt117 A c.T (by have:=(Jtfr.1 hf).2.1;simp only [fewM,Bool.and_eq_true,decide_eq_true_eq] at this;omega) (by have:=(Jtfr.1 hf).2.1;simp only [fewM,Bool.and_eq_true,decide_eq_true_eq] at this;omega)
 have he:few25 c=(fewC c&&decide ((wTotal c.W:Int)≤24)&&decide ((c.W.length:Int)≤6)&&decide ((codeN c.S.blocks:Int)≤60)&&decide ((mcodeN c.T.blocks:Int)≤200)):=rfl
 obtain ⟨sN,hsN⟩:∃ n,n=codeN c.S.blocks:=⟨_,rfl⟩
 obtain ⟨tN,htN⟩:∃ n,n=mcodeN c.T.blocks:=⟨_,rfl⟩
 obtain ⟨f,hf⟩:∃ f,f=fewC c:=⟨_,rfl⟩
 rw [←hf,←hsN,←htN] at he
 rw [←hf] at cf c1 c2 c3
 rw [←hsN] at c2
 rw [←htN] at c3
 rw [he]
 simp only [Func.av,MFunc.av] at c2 c3
 rw [Jt7t c c rfl rfl] at cf c1 ⊢
 have hwl:(wRows c.W).length=c.W.length:=by simp [wRows]
 refine A.Yf2y.run rfl fun R hR=>?_
 (simp (maxSteps:=9^6)[Jtk5])
 (refine Jt17 cf (by rfl) (by rfl) ?_)
 cases f with
 | false=>(simp (maxSteps:=9^6)[]);(first|exact hR _ _ FrA|exact hR _ _ FnA)
 | true=>
  (simp (maxSteps:=9^6)[])
  (refine Jt17 (c1 rfl) (by rfl) (by rfl) ?_)
  (simp (maxSteps:=9^6)[])
  ((first|refine Xc ?_ ?_|refine Xo ?_ ?_)<;>intro g1<;>try simp only [Xz,Xy] at g1)
  ·(simp (maxSteps:=9^6)[g1,hwl])
   ((first|refine Xc ?_ ?_|refine Xo ?_ ?_)<;>intro g2<;>try simp only [Xz,Xy] at g2)
   ·(simp (maxSteps:=9^6)[g2])
    (refine Jt17 (c2 rfl) (by rfl) (by rfl) ?_)
    (simp (maxSteps:=9^6)[])
    ((first|refine Xc ?_ ?_|refine Xo ?_ ?_)<;>intro g3<;>try simp only [Xz,Xy] at g3)
    ·(simp (maxSteps:=9^6)[g3])
     (refine Jt17 (c3 rfl) (by rfl) (by rfl) ?_)
     (simp (maxSteps:=9^6)[])
     (first|exact hR _ _ FrA|exact hR _ _ FnA|exact hR _ _ (Xf (hq:=by simp [AV.erase,AV.unview,g1,g2,g3];done)))
    ·(simp (maxSteps:=9^6)[g3])
     (first|exact hR _ _ FrA|exact hR _ _ FnA|exact hR _ _ (Xf (hq:=by simp [AV.erase,AV.unview,g1,g2,g3];done)))
   ·(simp (maxSteps:=9^6)[g2])
    (first|exact hR _ _ FrA|exact hR _ _ FnA|exact hR _ _ (Xf (hq:=by simp [AV.erase,AV.unview,g1,g2];done)))
  ·(simp (maxSteps:=9^6)[g1,hwl])
   (first|exact hR _ _ FrA|exact hR _ _ FnA|exact hR _ _ (Xf (hq:=by simp [AV.erase,AV.unview,g1];done)))
end
end Go.AE
set_option maxRecDepth 8000
namespace Go.AE
open Go
def exwF:Func:=⟨0,3,[⟨[],⟨3,0,0,0⟩⟩]⟩
def exwC:Cert:=rfCert exwF
def exwL:Cert:=⟨exwC.S,exwC.T,[[⟨0,1⟩]]⟩
theorem Jtfl:Jt163 exwF=(exwC,0):=by kernel_rfl
theorem exwC_W:exwC.W=[[⟨0,1⟩,⟨1,3⟩,⟨2,5⟩]]:=by decide +kernel
theorem Jtfm:liveIn exwF=[[0]]:=by
 have h0:LiveAt exwF 0 0:=.use 0 ⟨[],⟨3,0,0,0⟩⟩ rfl (by decide)
 have hno:∀ v:Int,v≠0→¬ LiveAt exwF v 0:=by
  intro v hv h
  have:=LiveAt.closed (f:=exwF) (v:=v) (S:=fun _=>False) (fun i b hb hu=>?_) (fun i b t hb ht hs hd=>hs) h
  ·exact this
  ·match i,hb with
   | 0,hb=>
    cases hb
    simp [usedZ,usedC,defAt] at hu
    exact hv (by omega)
 have hn:exwF.blocks.length=1:=rfl
 have hr:exwF.regs.toNat=3:=rfl
 simp [liveIn,liveS,hn,hr,List.range_succ,List.filter_cons,h0,hno]
theorem Jtfi:liveC exwC=exwL:=by
 have h1:liveIn exwC.S=[[0]]:=Jtfm
 unfold liveC liveTo exwL
 rw [h1,exwC_W]
 rfl
theorem Jtfh:(Jt15v exwC).err=0:=by decide +kernel
theorem Jtfj:minZ exwC=exwL:=by kernel_rfl
theorem Jtfk:Ok3 exwC:=⟨by decide +kernel,by
 have h:(exwC.T.blocks.all fun b=>b.code.all fun x=>decide (0≤x.dst)&&decide (x.dst≤1000)&&decide (0≤x.src)&&decide (x.src≤1000))=true:=by decide +kernel
 intro b hb x hx
 have h2:=List.all_eq_true.1 (List.all_eq_true.1 h b hb) x hx
 simp only [Bool.and_eq_true,decide_eq_true_eq] at h2
 constructor<;>constructor<;>omega,by rw [exwC_W];intro l hl q hq;simp at hl;subst hl;simp at hq;rcases hq with rfl | rfl | rfl<;>constructor<;>decide⟩
theorem Jtez:Ok3 emptyC:=⟨by decide,fun b hb=>by simp [emptyC] at hb,fun l hl=>by simp [emptyC] at hl⟩
theorem Jtey:(Jt15v emptyC).err=14:=by decide +kernel
end Go.AE
set_option maxRecDepth 8000
namespace Go.AE
open Go
theorem Jt1a3(c:Cert):Sm (liveC c) c:=by
 refine ⟨rfl,rfl,by simp [liveC,liveTo],fun i l m h1 h2=>?_⟩
 rw [Jtnt h2] at h1
 injection h1 with h1
 subst h1
 exact Jtlx _ _
theorem Acc3.okv{c:Cert}(h:Acc3 c):OkV c.S:=by
 refine okV_of (Jtfr.1 h.few).1 ?_
 have:=h.acc.v
 unfold validZ at this
 by_cases hc:Jt14r c.S=0
 ·exact hc
 ·rw [if_pos hc] at this;exact this
theorem Acc3.live{c:Cert}(h:Acc3 c):Acc3 (liveC c):=by
 obtain ⟨k1,k2,k3⟩:=Jto1 h.okv h.acc.v h.acc.fit h.acc.acc
 exact h.sm ⟨k1,k2,k3⟩ (Jt1a3 c)
theorem Acc3.min{c:Cert}(h:Acc3 c):Acc3 (minZ c)∧Sm (minZ c) c∧∀ i l,(minZ c).W[i]?=some l→∀ p∈l,(Jt15v (remC (minZ c) i p)).err≠0:=by
 obtain ⟨k1,k2,k3⟩:=Jtt6 (wTotal c.W+1) h.acc (by omega)
 exact ⟨h.sm k1 k2,k2,k3⟩
section
variable {P:Program} {p:Nums}
set_option maxHeartbeats 4000000 in
theorem Jtmv(A:All P p)(S:SortOk P p)(C:ClosOk P p)(SI:SortIOk P p):Jt51 P p.Yf2x [] [] fun o _=>o=.ret (AB true):=by
 have h1:=Jt14f A exwF (by decide) (by decide)
 rw [Jtfl] at h1
 have ac:=Jtfk.acc Jtfh
 have h2:=Jt1gg A S C SI exwC ac
 rw [Jtfi] at h2
 have h3:=Jt1gi A S C exwC ac
 rw [Jtfj] at h3
 have h4:=Jt1gf A S C emptyC Jtez (by rw [Jtey];decide)
 rw [Jtey] at h4
 have h5:=Jt1gn A exwC (by decide +kernel) (by decide +kernel)
 have h6:=Jt1gu A exwC 0 ⟨2,5⟩ (Jt1a4 ac.few)
 have h7:=Jt1gn A (remZ exwC 0 ⟨2,5⟩) (by decide +kernel) (by decide +kernel)
 have t5:wTotal exwC.W=3:=by decide +kernel
 have t7:wTotal (remZ exwC 0 ⟨2,5⟩).W=2:=by decide +kernel
 rw [t5] at h5
 rw [t7] at h7
 have s1:=Jt12w A [⟨0,1⟩] [⟨0,1⟩] (by decide) (by decide)
 obtain ⟨r1,r2,_⟩:=remZ_S exwC 0 ⟨2,5⟩
 rw [Jt7t exwC _ r1 r2] at h6 h7
 rw [Jt7t exwC exwC rfl rfl] at h1 h2 h3 h5 h6
 rw [Jt7t exwC exwL rfl rfl] at h2 h3
 obtain ⟨sR,hsR⟩:∃ x,x=exwC.S.blocks.map Block.row:=⟨_,rfl⟩
 obtain ⟨tR,htR⟩:∃ x,x=exwC.T.blocks.map MBlock.row:=⟨_,rfl⟩
 obtain ⟨wR,hwR⟩:∃ x,x=wRows exwC.W:=⟨_,rfl⟩
 obtain ⟨wV,hwV⟩:∃ x,x=wRows (remZ exwC 0 ⟨2,5⟩).W:=⟨_,rfl⟩
 rw [←hsR,←htR] at h1 h2 h3 h5 h6 h7
 rw [←hwR] at h1 h2 h3 h5 h6
 rw [←hwV] at h6 h7
 obtain ⟨u1,hu1⟩:∃ x,x=exwC.S.args:=⟨_,rfl⟩
 obtain ⟨u2,hu2⟩:∃ x,x=exwC.S.regs:=⟨_,rfl⟩
 obtain ⟨u3,hu3⟩:∃ x,x=exwC.T.args:=⟨_,rfl⟩
 obtain ⟨u4,hu4⟩:∃ x,x=exwC.T.regs:=⟨_,rfl⟩
 obtain ⟨u5,hu5⟩:∃ x,x=exwC.T.slots:=⟨_,rfl⟩
 rw [←hu1,←hu2,←hu3,←hu4,←hu5] at h1 h2 h3 h5 h6 h7
 simp only [exwF,exwL,wRows,Func.av,Block.row,pairsD,Pair.row,Pair.av,emptyC,Cert.av,witD,List.map_cons,List.map_nil,decide_true] at h1 h2 h3 h4 h6 s1
 refine A.Yf2x.run rfl fun R hR=>?_
 (simp (maxSteps:=9^6)[Jtif])
 (refine Jt17 h1 (by rfl) (by rfl) ?_)
 (simp (maxSteps:=9^6)[])
 (refine Jt17 h2 (by rfl) (by rfl) ?_)
 (simp (maxSteps:=9^6)[])
 (refine Jt17 h3 (by rfl) (by rfl) ?_)
 (simp (maxSteps:=9^6)[])
 (refine Jt18 h4 (by rfl) (by (exact wkvA)) (by rfl) ?_)
 (simp (maxSteps:=9^6)[])
 (refine Jt17 s1 (by rfl) (by rfl) ?_)
 (simp (maxSteps:=9^6)[])
 (refine Jt17 s1 (by rfl) (by rfl) ?_)
 (simp (maxSteps:=9^6)[])
 (refine Jt17 h5 (by rfl) (by rfl) ?_)
 (simp (maxSteps:=9^6)[])
 (refine Jt17 h6 (by rfl) (by rfl) ?_)
 (simp (maxSteps:=9^6)[])
 (refine Jt17 h7 (by rfl) (by rfl) ?_)
 (simp (maxSteps:=9^6)[])
 (first|exact hR _ _ FrA|exact hR _ _ FnA)
end
end Go.AE
set_option maxRecDepth 8000
namespace Go.AE
open Go
section
variable {P:Program} {p:Nums}
end
end Go.AE
set_option maxRecDepth 8000
namespace Go.AE
open Go
theorem Jt1ek{b:Int}{n:Nat}(h0:0≤b)(hn:n≠0):∃ i:Nat,b.tmod n=i∧i<n:=by
 refine ⟨(b.tmod n).toNat,?_,?_⟩
 ·have:=Int.tmod_nonneg (n:Int) h0;omega
 ·have h1:=Int.tmod_lt_of_pos b (b:=(n:Int)) (by omega)
  have:=Int.tmod_nonneg (n:Int) h0;omega
section
variable {P:Program} {p:Nums}
set_option maxHeartbeats 8000000 in
theorem Jtmm(A:All P p)(S:SortOk P p)(C:ClosOk P p)(SI:SortIOk P p)(c:Cert)(b1 b2:Int)(h2:∀ b∈c.T.blocks,okM b)(hw:okW c.W)(hb1:0≤b1∧b1<256)(hb2:0≤b2∧b2<256):Jt51 P p.Yf2w [c.av,AU b1,AU b2] [] fun o _=>o=.ret (AB true):=by
 have ca:=Jtmv A S C SI
 have cf:=Jt14k A c
 refine A.Yf2w.run rfl fun R hR=>?_
 by_cases hf:few25 c=true
 case neg=>
  have hff:few25 c=false:=by simpa using hf
  rw [hff] at cf
  rw [Jt7t c c rfl rfl] at cf ⊢
  (simp (maxSteps:=9^6)[Jtie,AU])
  (refine Jt17 ca (by rfl) (by rfl) ?_)
  (simp (maxSteps:=9^6)[])
  (refine Jt17 cf (by rfl) (by rfl) ?_)
  (simp (maxSteps:=9^6)[])
  (refine Jt17 ca (by rfl) (by rfl) ?_)
  (simp (maxSteps:=9^6)[])
  (first|exact hR _ _ FrA|exact hR _ _ FnA)
 rw [hf] at cf
 have ok:Ok3 c:=⟨Jtfq hf,h2,hw⟩
 have q1:=Jtbp A S C c ok.okc ok.few
 by_cases he:(Jt15v c).err=0
 case neg=>
  simp only [Rep.av] at q1
  rw [Jt7t c c rfl rfl] at cf q1 ⊢
  have heb:((Jt15v c).err==0)=false:=by simpa using he
  (simp (maxSteps:=9^6)[Jtie,AU])
  (refine Jt17 ca (by rfl) (by rfl) ?_)
  (simp (maxSteps:=9^6)[])
  (refine Jt17 cf (by rfl) (by rfl) ?_)
  (simp (maxSteps:=9^6)[])
  (refine Jt17 q1 (by rfl) (by rfl) ?_)
  (simp (maxSteps:=9^6)[he,heb])
  (refine Jt17 ca (by rfl) (by rfl) ?_)
  (simp (maxSteps:=9^6)[])
  (first|exact hR _ _ FrA|exact hR _ _ FnA)
 have ac:=ok.acc he
 obtain ⟨am,hsm,hmin⟩:=ac.min
 have m1:=Jt1gi A S C c ac
 obtain ⟨x,hx⟩:∃ x,x=minZ c:=⟨_,rfl⟩
 rw [←hx] at am hsm hmin m1
 have q2:=Jtbp A S C x am.okc am.few
 have sm:=Jtn5 A x c hsm (Jt1a4 ok.few)
 have e2:=am.acc.acc
 have hpos:x.W.length≠0:=by have:=am.acc.fit.lenW;have:=am.acc.fit.pos;omega
 have hW40:=(Jtfr.1 am.few).2.2.1
 obtain ⟨i,hi,hin⟩:=Jt1ek hb1.1 hpos
 obtain ⟨l,hl⟩:∃ l,x.W[i]?=some l:=⟨_,lgE hin⟩
 have hll:=(Jtfr.1 am.few).2.2.2 l (lmG hl)
 simp only [Rep.av,he] at q1
 simp only [Rep.av,e2] at q2
 obtain ⟨n,hn⟩:∃ n,n=x.W.length:=⟨_,rfl⟩
 rw [←hn] at hi hin hpos hW40
 obtain ⟨wR,hwR⟩:∃ w,w=wRows c.W:=⟨_,rfl⟩
 obtain ⟨wL,hwL⟩:∃ w,w=wRows x.W:=⟨_,rfl⟩
 have hwl:wL.length=n:=by rw [hwL,hn];simp [wRows]
 have hwi:wL[i]?=some [.sl (l.map Pair.row)]:=by rw [hwL];simp [wRows,hl,pairsD]
 have hrem:=fun q=>Jt1gu A x (i:Int) q (Jt1a4 am.few)
 have hat:∀ q,remZ x (i:Int) q=remC x i q:=fun q=>Jt15c x (by omega) q
 have hmq:∀ q∈l,(Jt15v (remC x i q)).err≠0:=fun q hq=>hmin i l hl q hq
 have hch:∀ q,Jt51 P p.Yf1p [(remC x i q).av] [] fun o _=>o=.ret (Jt15v (remC x i q)).av:=fun q=>by
  have hrs:=Jt15a (c:=x) (i:=i) (by omega) q
  exact Jtbp A S C (remC x i q) (Jtug (sm_few hrs am.few) (by rw [hrs.T];exact am.okm) (sm_okw hrs am.okw)) (sm_few hrs am.few)
 have hcS:∀ q,(remC x i q).av=.agg [AI c.S.args,AI c.S.regs,.d (.sl (c.S.blocks.map Block.row)),AI c.T.args,AI c.T.regs,AI c.T.slots,.d (.sl (c.T.blocks.map MBlock.row)),.d (.sl (wRows (remC x i q).W))]:=fun q=>Jt7t c _ (by show x.S=c.S;exact hsm.S) (by show x.T=c.T;exact hsm.T)
 simp only [hat,hcS] at hrem
 simp only [hcS] at hch
 rw [Jt7t c x hsm.S hsm.T] at m1 q2 sm hrem
 rw [Jt7t c c rfl rfl] at cf q1 m1 sm ⊢
 rw [←hwL] at m1 q2 sm hrem
 rw [←hwR] at cf q1 m1 sm ⊢
 clear hat hcS
 (simp (maxSteps:=9^6)[Jtie,AU])
 (refine Jt17 ca (by rfl) (by rfl) ?_)
 (simp (maxSteps:=9^6)[])
 (refine Jt17 cf (by rfl) (by rfl) ?_)
 (simp (maxSteps:=9^6)[])
 (refine Jt17 q1 (by rfl) (by rfl) ?_)
 (simp (maxSteps:=9^6)[])
 (refine Jt17 m1 (by rfl) (by rfl) ?_)
 (simp (maxSteps:=9^6)[])
 (refine Jt17 q2 (by rfl) (by rfl) ?_)
 (simp (maxSteps:=9^6)[])
 (refine Jt17 sm (by rfl) (by rfl) ?_)
 have hw1:IntKind.i64.wrap b1=b1:=wrap_i64 (by omega) (by omega)
 have hw2:IntKind.i64.wrap b2=b2:=wrap_i64 (by omega) (by omega)
 have hnb:((n:Int)==0)=false:=by simpa using hpos
 obtain ⟨m,hm⟩:∃ m,m=l.length:=⟨_,rfl⟩
 obtain ⟨lR,hlR⟩:∃ w,w=l.map Pair.row:=⟨_,rfl⟩
 have hlRl:lR.length=m:=by rw [hlR,hm];simp
 rw [←hlR] at hwi
 (simp (maxSteps:=9^6)[hwl,hpos,hnb,hw1,hw2,hi,hwi,hlRl])
 by_cases hl1:m=0
 ·(simp (maxSteps:=9^6)[hl1])
  (first|exact hR _ _ FrA|exact hR _ _ FnA)
 rw [hm] at hl1
 obtain ⟨k,hk,hkl⟩:=Jt1ek hb2.1 hl1
 obtain ⟨q,hq⟩:∃ q,l[k]?=some q:=⟨_,lgE hkl⟩
 have hql:=lmG hq
 have hq1:=hrem q
 have hq2:=hch q
 have hq3:=hmq q hql
 obtain ⟨rr,hrr⟩:∃ rr,rr=Jt15v (remC x i q):=⟨_,rfl⟩
 rw [←hrr] at hq2 hq3
 obtain ⟨wV,hwV⟩:∃ w,w=wRows (remC x i q).W:=⟨_,rfl⟩
 rw [←hwV] at hq1 hq2
 have hzb:(rr.err==0)=false:=by simpa using hq3
 have hlRk:lR[k]?=some [I q.v,I q.l]:=by rw [hlR];simp [hq,Pair.row]
 rw [←hm] at hk hkl hl1
 simp only [Rep.av] at hq2
 simp only [Pair.av] at hq1
 clear hrem hch hmq hmin
 (simp (maxSteps:=9^6)[hwi,hlRl,hl1,hw2,hk,hlRk])
 (refine Jt17 hq1 (by rfl) (by rfl) ?_)
 (simp (maxSteps:=9^6)[])
 (refine Jt17 hq2 (by rfl) (by rfl) ?_)
 (simp (maxSteps:=9^6)[hq3,hzb])
 (first|exact hR _ _ FrA|exact hR _ _ FnA|exact hR _ _ (Xf (hq:=by simp [AV.erase,AV.unview,hq3];done)))
end
end Go.AE
