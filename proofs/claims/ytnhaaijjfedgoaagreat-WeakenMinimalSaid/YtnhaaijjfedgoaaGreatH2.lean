/- A part of the proof. -/
import Derived.Test.YtnhaaijjfedgoaaGreatH1
import Derived.Scope
import Derived.ScopeJumps
import Derived.Recover
import Derived.IntWalk
import Derived.ProofKit
import Derived.Below
import Derived.ChangeArms
set_option linter.unusedVariables false
set_option linter.unusedSimpArgs false
namespace Go.AE
open Go
theorem sw_sw(i j b:Nat):sw i j (sw i j b)=b:=by
 unfold sw;repeat' split
 all_goals omega
theorem sw_inj{i j b c:Nat}(h:sw i j b=sw i j c):b=c:=by
 have:=congrArg (sw i j) h;rwa [sw_sw,sw_sw] at this
theorem AV.ren_erase{ρ:Nat→Option Nat}{x y:AV}(h:x.ren ρ=some y):x.erase.ren ρ=some y.erase:=by
 cases x<;>simp only [AV.ren] at h<;>(try (injection h with h;subst h;rfl))<;>(try (split at h<;>cases h<;>simp_all [AV.erase,AV.ren]))
theorem AV.ren_leaf{ρ:Nat→Option Nat}{x y:AV}(h:x.ren ρ=some y)(hx:x.leaf=true):y.leaf=true:=by
 cases x<;>simp only [AV.ren] at h<;>(try cases hx)<;>(try (injection h with h;subst h;rfl))<;>(split at h<;>cases h<;>rfl)
theorem AV.ren_view{ρ:Nat→Option Nat}{x:AV}{org:Place}{e:Nat}{rows:List (List D)} (h:x.ren ρ=some (.view org e rows)):False:=by
 cases x<;>simp only [AV.ren] at h<;>first | (simp at h;done) | (split at h<;>simp at h)
theorem AV.ren_own{ρ:Nat→Option Nat}{x:AV}{e:Nat}{rows:List (List D)} (h:x.ren ρ=some (.own e rows)):x=.own e rows:=by
 cases x<;>simp only [AV.ren] at h<;>first | (simp at h;done) | (simpa using h) | (split at h<;>simp at h)
theorem Jt15r{ρ:Nat→Option Nat}:∀ {xs ys:List AV},renL ρ xs=some ys→xs.length=ys.length∧∀ (k:Nat) (y:AV),ys[k]?=some y→∃ x,xs[k]?=some x∧x.ren ρ=some y:=by
 intro xs
 induction xs with
 | nil=>intro ys h;simp only [renL] at h;injection h with h;subst h;exact ⟨rfl,fun k y hy=>by simp at hy⟩
 | cons x xs ih=>
  intro ys h
  simp only [renL] at h
  split at h
  ·rename_i y ys' h1 h2
   injection h with h;subst h
   obtain ⟨i1,i2⟩:=ih h2
   refine ⟨by simp [i1],fun k z hz=>?_⟩
   cases k with
   | zero=>exact ⟨x,rfl,by simp at hz;rw [←hz];exact h1⟩
   | succ k=>exact i2 k z (by simpa using hz)
  ·cases h
theorem Blk.ren_mem{ρ:Nat→Option Nat}{k:Blk}{cells:List AV}(h:k.ren ρ=some (.mem cells)):∃ c0,k=.mem c0∧renL ρ c0=some cells:=by
 cases k<;>simp only [Blk.ren] at h
 ·split at h
  ·rename_i cs hc;injection h with h;injection h with h;subst h;exact ⟨_,rfl,hc⟩
  ·cases h
 all_goals (injection h with h;cases h)
section
variable {P:Program} {N:Nat} {st:ASt} {g:Gh} {a:Act} {w:World}
theorem Here.mv{O:Nat→Prop}{m:Nat}{g0:Gh}{w0:World}{D0:List Deferred}(h:Here N O m g0 w0 D0 st g a w){i j:Nat}{st':ASt}(hm:Mv m i j st st'):Here N O m g0 w0 D0 st' ⟨fun b=>g.φ (sw i j b),g.F⟩ a w:=by
 have hs:=h.sim
 have hsw:∀ b,sw i j b<st.H.length→b<st'.H.length:=by
  intro b hb
  have h1:=hm.li
  have h2:=hm.lj
  rw [hm.len]
  unfold sw at hb
  split at hb
  ·omega
  ·split at hb<;>omega
 have hrel:∀ {x y:AV} {v:Value},x.ren (fun b=>some (sw i j b))=some y→Rel g.F g.φ w x.erase v→Rel g.F (fun b=>g.φ (sw i j b)) w y.erase v:=by
  intro x y v hx hv
  refine Rel.ren (ρ:=fun b=>some (sw i j b)) (fun b b' r hb hr=>?_) hv _ (AV.ren_erase hx)
  injection hb with hb
  rw [←hb,sw_sw];exact hr
 obtain ⟨pm,hpm⟩:∃ pm:Place→Place,pm=fun p=>match p with | .tmp t=>.tmp t | .cell b k=>.cell (sw i j b) k:=⟨_,rfl⟩
 have pinj:∀ p p',pm p=pm p'→p=p':=by
  intro p p' hp
  rw [hpm] at hp
  cases p with
  | tmp t=>cases p' with | tmp t'=>exact hp | cell b k=>cases hp
  | cell b k=>cases p' with
   | tmp t'=>cases hp
   | cell b' k'=>injection hp with h1 h2;rw [sw_inj h1,h2]
 have hAP:∀ p e rows,AP st' p=some (.own e rows)→AP st (pm p)=some (.own e rows):=by
  intro p e rows hp
  rw [hpm]
  cases p with
  | tmp t=>
   obtain ⟨x,hx,hr⟩:=hm.env _ _ hp
   rw [AV.ren_own hr] at hx;exact hx
  | cell b k=>
   simp only [AP] at hp ⊢
   split at hp
   ·rename_i cells hb
    obtain ⟨k0,h1,h2⟩:=hm.H b _ hb
    obtain ⟨c0,rfl,h3⟩:=Blk.ren_mem h2
    obtain ⟨x,hx,hr⟩:=(Jt15r h3).2 k _ hp
    rw [AV.ren_own hr] at hx
    rw [h1];exact hx
   ·cases hp
 have hRP:∀ p,RP (fun b=>g.φ (sw i j b)) a w p=RP g.φ a w (pm p):=by
  intro p;rw [hpm];cases p<;>rfl
 have hO:∀ p r,Owner st' (fun b=>g.φ (sw i j b)) a w p r→Owner st g.φ a w (pm p) r:=by
  rintro p r ⟨e,rows,v,h1,h2,h3⟩
  exact ⟨e,rows,v,hAP _ _ _ h1,by rw [←hRP];exact h2,h3⟩
 refine ⟨?_,⟨h.tr.os,h.tr.tape,h.tr.output,h.tr.size,h.tr.other,h.tr.stab⟩,?_,?_,by rw [hm.len];exact h.ge,h.df⟩
 ·refine { size:=hs.size,env:=?_,inj:=?_,lt:=?_,dom:=?_,mem:=?_,iter:=?_,glob:=?_,own:=?_,excl:=?_,apart:=?_,view:=?_}
  ·intro t y hy
   obtain ⟨x,hx,hr⟩:=hm.env t y hy
   exact hrel hr (hs.env t x hx)
  ·exact fun b b' r h1 h2=>sw_inj (hs.inj _ _ r h1 h2)
  ·intro b r hb
   obtain ⟨q1,q2,q3⟩:=hs.lt _ r hb
   exact ⟨q1,q2,hsw b q3⟩
  ·intro b k hk hd
   obtain ⟨k0,h1,h2⟩:=hm.H b k hk
   exact hs.dom _ k0 h1 fun e=>hd (by subst e;simp only [Blk.ren] at h2;injection h2 with h2;exact h2.symm)
  ·intro b cells r hb hr
   obtain ⟨k0,h1,h2⟩:=hm.H b _ hb
   obtain ⟨c0,rfl,h3⟩:=Blk.ren_mem h2
   obtain ⟨l1,l2⟩:=Jt15r h3
   obtain ⟨c,e,q1,q2,q3⟩:=hs.mem _ c0 r h1 hr
   refine ⟨c,e,q1,by omega,fun k x hx=>?_⟩
   obtain ⟨x0,hx0,hren⟩:=l2 k x hx
   obtain ⟨z1,u,z2,z3⟩:=q3 k x0 hx0
   exact ⟨AV.ren_leaf hren z1,u,z2,hrel hren z3⟩
  ·intro b s pos r hb hr
   obtain ⟨k0,h1,h2⟩:=hm.H b _ hb
   have:k0=.iter s pos:=by
    cases k0<;>simp only [Blk.ren] at h2<;>first | (simp at h2;done) | (simpa using h2) | (split at h2<;>simp at h2)
   subst this
   exact hs.iter _ s pos r h1 hr
  ·intro b r0 o r hb hr
   obtain ⟨k0,h1,h2⟩:=hm.H b _ hb
   have:k0=.glob r0 o:=by
    cases k0<;>simp only [Blk.ren] at h2<;>first | (simp at h2;done) | (simpa using h2) | (split at h2<;>simp at h2)
   subst this
   exact hs.glob _ r0 o r h1 hr
  ·intro p e rows v hp hv
   exact hs.own (pm p) e rows v (hAP _ _ _ hp) (by rw [←hRP];exact hv)
  ·intro p p' r h1 h2
   exact pinj _ _ (hs.excl _ _ r (hO _ _ h1) (hO _ _ h2))
  ·intro p r b h1 h2
   exact hs.apart _ r _ (hO _ _ h1) h2
  ·intro t org e rows hy
   obtain ⟨x,hx,hr⟩:=hm.env t _ hy
   exact (AV.ren_view hr).elim
 ·rintro r (⟨b,hb⟩ | ⟨p,hp⟩)
  ·exact h.mine r (.inl ⟨_,hb⟩)
  ·exact h.mine r (.inr ⟨_,hO _ _ hp⟩)
 ·intro b r hb hr
  have h1:=hm.mi
  have h2:=hm.mj
  have:sw i j b=b:=by unfold sw;rw [if_neg (by omega),if_neg (by omega)]
  show g.φ (sw i j b)=some r
  rw [this];exact h.keep b r hb hr
end
section
variable {P:Program} {N:Nat} {kills:List (List Nat)}
theorem Here.drew{st:ASt}{g:Gh}{a:Act}{w:World}{O:Nat→Prop}{m:Nat}{g0:Gh}{w0:World}{D0:List Deferred}(h:Here N O m g0 w0 D0 st g a w):Here N O m g0 w0 D0 st g a w.drew:=by
 obtain ⟨h1,h2⟩:=h.sim.drew
 exact ⟨h1,⟨h.tr.os,h.tr.tape,h.tr.output,h.tr.size,h.tr.other,⟨h.tr.stab.1,h.tr.stab.2,h.tr.stab.3⟩⟩,fun r hr=>h.mine r ((h2 r).1 hr),h.keep,h.ge,h.df⟩
theorem Jth2{O:Nat→Prop}{m:Nat}{g0:Gh}{w0:World}{D0:List Deferred}{Q:AExit→ASt→Prop}{ks:List Nat}{st:ASt}{g:Gh}{a:Act}{w:World}(h:Here N O m g0 w0 D0 st g a w):
  GoesOn N st g a w (fun st=>Q .normal ⟨unview (kill ks st.env),st.H⟩) (fun x st=>Q (.panic x) st) (Post N O m g0 w0 D0 Q .normal) (Post N O m g0 w0 D0 Q):=by
 refine ⟨fun st' g' a' w' hK hs hst=>?_,fun x v st' g' a' w' hq hs hr hst=>?_⟩
 ·exact ⟨_,g',hK,(h.step hs hst).kill ks⟩
 ·exact ⟨x,v,st',g',rfl,hq,h.step hs hst,hr⟩
theorem Jtcy{c:Code}{ks:List Nat}{r:IC}{O:Nat→Prop}{m:Nat}{g0:Gh}{w0:World}{D0:List Deferred}{st:ASt}{g:Gh}{a:Act}{w:World}(hr:∀ Q:AExit→ASt→Prop,AW P m r Q st→c.wp P (Post N O m g0 w0 D0 Q) a w)
  {Q:AExit→ASt→Prop} (h:AW P m (cutIf ks r) Q st):c.wp P (Post N O m g0 w0 D0 Q) a w:=by
 unfold cutIf at h
 split at h
 case isFalse=>exact hr Q h
 case isTrue=>
  refine wp_mono (hr _ h) ?_
  intro e a' w' hp
  cases e with
  | normal=>
   obtain ⟨st',g',h1,h2⟩:=hp
   rcases h1 with h1 | ⟨st2,hw,h1 | ⟨i,j,st3,st4,h3,h4,h5⟩⟩
   ·exact ⟨st',g',h1,h2⟩
   ·exact ⟨st2,_,h1,h2.weak hw⟩
   ·exact ⟨st4,_,h5,((h2.weak hw).mv h3).weak h4⟩
  | exit id=>exact hp
  | goto l=>exact hp
  | ret=>exact hp
  | panic c=>exact hp
  | outgrown=>exact hp
theorem Jtm9:∀ {env:List (Nat × AV)},Go.AE.kill [] env=env:=by
 intro env
 induction env with
 | nil=>rfl
 | cons p r ih=>obtain ⟨t,x⟩:=p;simp [Go.AE.kill,ih]
theorem Jta3{op:Op}{io:AO}(h:cOp P op=some io):∀ n b x y i,io≠.appq n b x y i:=by
 rintro n b x' y' i rfl
 cases hop:op<;>rw [hop] at h<;>simp only [cOp] at h
 case call c=>
  unfold cCall at h
  repeat' (first | (cases h;done) | contradiction | (obtain ⟨_,_,h'⟩:=Jtcb h;cases h';done) | (obtain ⟨_,_,_,_,h'⟩:=Jtcc h;cases h';done) | split at h)
 all_goals (repeat' (first | (cases h;done) | contradiction | (obtain ⟨_,_,h'⟩:=Jtcb h;cases h';done) | (obtain ⟨_,_,_,_,h'⟩:=Jtcc h;cases h';done) | split at h))
theorem Jta8{ops:Array Oper}:∀ {os:List Oper} {ios:List IOp},cOpers P N ops os=some ios→Jth6 ios=false:=by
 intro os
 induction os with
 | nil=>intro ios h;simp [cOpers] at h;subst h;rfl
 | cons o os ih=>
  intro ios h
  simp only [cOpers] at h
  split at h
  ·rename_i x xs hx hxs
   injection h with h;subst h
   have h1:=ih hxs
   obtain ⟨k1,_⟩:=Jta6 hx
   have h2:=Jta3 k1
   have h3:(match x.io with | .appq ..=>true | _=>false)=false:=by
    cases hio:x.io with
    | appq n b a y i=>exact absurd hio (h2 _ _ _ _ _)
    | _=>rfl
   unfold Jth6 at h1 ⊢
   rw [List.any_cons,h1,Bool.or_false];exact h3
  ·cases h
theorem Jt153(hm:P.follows .mixedOrders=true){id:Nat}{ops:Array Oper}{draw:Bool}{ic:IC}{O:Nat→Prop}{m:Nat}{g0:Gh}{w0:World}{D0:List Deferred}{Q:AExit→ASt→Prop}{st:ASt}{g:Gh}{a:Act}{w:World}
  (hc:comp P N kills (.region id ops draw)=some ic) (h:Here N O m g0 w0 D0 st g a w) (haw:AW P m ic Q st):(Code.region id ops draw).wp P (Post N O m g0 w0 D0 Q) a w:=by
 simp only [comp] at hc
 split at hc
 ·rename_i r hrr
  injection hc with hc;subst hc
  unfold specIC at hrr
  split at hrr
  rotate_left
  ·obtain ⟨hdr,hns,tk,jos,t,htk,hjos,ht,rfl⟩:=Jt1fa hrr
   ·subst hdr
    have h':=h.drew
    refine Jtcy (st:=st) (g:=g) (m:=m) (fun Q haw=>?_) haw
    obtain ⟨Q2,hQ2⟩:∃ Q2:AExit→ASt→Prop,Q2=fun e st=>match e with | .panic _=>False | e=>Q e st:=⟨_,rfl⟩
    have haw2:AWT P (fun _ _=>False) t (fun st=>Q2 .normal ⟨unview (kill [] st.env),st.H⟩) st:=by rw [hQ2];exact haw
    have hgo:=Jth2 (Q:=Q2) (ks:=[]) h'
    refine wp_mono (wp_region_any hm (Jtte htk hjos hns (fun c a w hp=>?_) (fun hp=>?_) _ _ t st g a _ ht h'.sim haw2 ⟨hgo.1,fun x v st' g' a' w' hq=>hq.elim⟩)) ?_
    ·obtain ⟨x,v,st',g',_,hq,_⟩:=hp
     rw [hQ2] at hq;exact hq
    ·obtain ⟨a',w',hp⟩:=hp
     exact hp
    ·intro e a' w' hp
     cases e with
     | normal=>obtain ⟨st',g',h1,h2⟩:=hp;rw [hQ2] at h1;exact ⟨st',g',h1,h2⟩
     | exit id=>obtain ⟨st',g',h1,h2⟩:=hp;rw [hQ2] at h1;exact ⟨st',g',h1,h2⟩
     | goto l=>exact hp
     | ret=>obtain ⟨st',g',h1,h2⟩:=hp;rw [hQ2] at h1;exact ⟨st',g',h1,h2⟩
     | panic c=>obtain ⟨x,v,st',g',_,hq,_⟩:=hp;rw [hQ2] at hq;exact hq.elim
     | _=>exact hp
  rename_i r' hh
  injection hrr with hrr;subst hrr
  have hrr:=hh
  unfold Jthb at hrr
  split at hrr
  ·rename_i hdr
   obtain ⟨hdr,_⟩:=hdr
   subst hdr
   split at hrr
   rotate_left
   ·cases hrr
   rename_i jos hjos
   split at hrr
   ·rename_i hok
    injection hrr with hrr;subst hrr
    have h':=h.drew
    refine Jtcy (st:=st) (g:=g) (m:=m) (fun Q haw=>?_) haw
    have hno:jos.all noPan=true:=by
     have:=hok.1
     unfold Jthc at this
     simp only [Bool.and_eq_true] at this
     exact this.2
    have hnh:Jth6 jos=false:=Jta8 hjos
    obtain ⟨Q2,hQ2⟩:∃ Q2:AExit→ASt→Prop,Q2=fun e st=>match e with | .panic _=>False | e=>Q e st:=⟨_,rfl⟩
    have haw2:AWops P (fun x st=>Q2 (.panic x) st) (marked (ancs (Jtnm ops).toList []) jos.length 0 jos) (fun st=>Q2 .normal ⟨unview (kill [] st.env),st.H⟩) st:=by
     have h1:AWops P (fun x st=>Q (.panic x) st) (marked (ancs (Jtnm ops).toList []) jos.length 0 jos) (fun st=>Q .normal ⟨unview (kill [] st.env),st.H⟩) st:=haw
     rw [hQ2]
     rw [Jt4k (QP':=fun x st=>False) (by rw [Jtsa];exact hno)] at h1
     exact h1
    have hany:=Jt1i hjos rfl Jt1fe hok.2 h'.sim (fun hh=>by rw [hnh] at hh;cases hh) haw2 (Jth2 (ks:=[]) h')
    refine wp_mono (wp_region_any hm (hoist hok.1 (fun c a w hp=>?_) (fun hp=>?_) hany)) ?_
    ·obtain ⟨x,v,st',g',_,hq,_⟩:=hp
     rw [hQ2] at hq;exact hq
    ·obtain ⟨a',w',hp⟩:=hp
     exact hp
    ·intro e a' w' hp
     cases e with
     | normal=>obtain ⟨st',g',h1,h2⟩:=hp;rw [hQ2] at h1;exact ⟨st',g',h1,h2⟩
     | exit id=>obtain ⟨st',g',h1,h2⟩:=hp;rw [hQ2] at h1;exact ⟨st',g',h1,h2⟩
     | goto l=>exact hp
     | ret=>obtain ⟨st',g',h1,h2⟩:=hp;rw [hQ2] at h1;exact ⟨st',g',h1,h2⟩
     | panic c=>obtain ⟨x,v,st',g',_,hq,_⟩:=hp;rw [hQ2] at hq;exact hq.elim
     | _=>exact hp
   ·cases hrr
  ·cases hrr
 split at hc
 ·rename_i ios hios
  split at hc
  ·rename_i hdr
   subst hdr
   split at hc
   ·rename_i hok
    injection hc with hc;subst hc
    have h':=h.drew
    obtain ⟨p1,p2⟩:=Jtha (A:=ancs ops.toList []) (ios:=ios)
    refine Jtcy (st:=st) (g:=g) (m:=m) (fun Q haw=>?_) haw
    have hu:Here N O m g0 w0 D0 ⟨unview st.env,st.H⟩ g a w.drew:=by
     have:=h'.kill []
     rwa [show Go.AE.kill [] st.env=st.env from Jtm9] at this
    exact wp_region_any hm (Jt1i hios p1 p2 hok.2 hu.sim (fun _ t p e r hv=>Jtu2 hv) haw (Jth2 (ks:=[N]) hu))
   ·split at hc
    ·rename_i hok
     injection hc with hc;subst hc
     have h':=h.drew
     refine Jtcy (st:=st) (g:=g) (m:=m) (fun Q haw=>?_) haw
     have hnh:Jth6 ios=false:=Jta8 hios
     exact wp_region_any hm (Jt1i hios rfl Jt1fe hok h'.sim (fun hh=>by rw [hnh] at hh;cases hh) haw (Jth2 (ks:=[]) h'))
    ·split at hc
     ·rename_i hok
      injection hc with hc;subst hc
      have h':=h.drew
      refine Jtcy (st:=st) (g:=g) (m:=m) (fun Q haw=>?_) haw
      obtain ⟨p1,p2⟩:=Jt1do (A:=ancs ops.toList []) (ios:=ios)
      have hnh:Jth6 (Jt1dn (ancs ops.toList []) ios)=false:=by
       unfold Jth6
       rw [List.any_eq_false]
       intro x hx
       obtain ⟨j,hj⟩:=List.getElem?_of_mem hx
       obtain ⟨io0,k1,k2⟩:=p2 j x hj
       have hl:=Jta8 hios
       unfold Jth6 at hl
       rw [List.any_eq_false] at hl
       have h0:=hl io0 (lmG k1)
       rcases k2 with k2 | ⟨_,_,_,_,_,e1,e2⟩
       ·rw [k2];exact h0
       ·rw [e2];simp
      exact wp_region_any hm (Jt1i hios p1 (fun j io1 hj=>by
       obtain ⟨io0,k1,k2⟩:=p2 j io1 hj
       exact ⟨io0,k1,k2.imp_right .inl⟩) hok h'.sim (fun hh=>by rw [hnh] at hh;cases hh) haw (Jth2 (ks:=[]) h'))
     ·cases hc
  ·rename_i hdr
   have hdr':draw=false:=by simpa using hdr
   subst hdr'
   injection hc with hc;subst hc
   refine Jtcy (st:=st) (g:=g) (m:=m) (fun Q haw=>?_) haw
   refine wp_region ?_
   rw [List.range_eq_range']
   unfold takeIf at haw
   split at haw
   ·have:=Jt4m (P:=P) (ops:=ops) ops.toList 0 ios st g a w (fun j=>by simp) hios h.sim haw (Jth2 h)
    simpa using this
   ·have:=Jt4l (P:=P) (ops:=ops) ops.toList 0 ios st g a w (fun j=>by simp) hios h.sim haw (Jth2 h)
    simpa using this
 ·cases hc
def PostG(G:List Nat)(N:Nat)(O:Nat→Prop)(m:Nat)(g0:Gh)(w0:World)(D0:List Deferred)(Q:AExit→ASt→Prop):Exit→Act→World→Prop
 | .goto l,a,w=>l∈G∧∃ st g,Q (.exit (gB+l)) st∧Here N O m g0 w0 D0 st g a w
 | .exit id,a,w=>id<gB∧∃ st g,Q (.exit id) st∧Here N O m g0 w0 D0 st g a w
 | e,a,w=>Post N O m g0 w0 D0 Q e a w
def noExit(Q:AExit→ASt→Prop):AExit→ASt→Prop
 | .exit _,_=>False
 | e,st=>Q e st
theorem Post_G{G:List Nat}{O:Nat→Prop}{m:Nat}{g0:Gh}{w0:World}{D0:List Deferred}{Q:AExit→ASt→Prop}:∀ e a w,Post N O m g0 w0 D0 (noExit Q) e a w→PostG G N O m g0 w0 D0 Q e a w:=by
 intro e a w h
 cases e with
 | goto l=>exact h.elim
 | exit i=>obtain ⟨_,_,h1,_⟩:=h;exact h1.elim
 | _=>exact h
theorem Jt152{id:Nat}{ops:Array Oper}{draw:Bool}{ic:IC}{m:Nat}{Q:AExit→ASt→Prop}{st:ASt}(hc:comp P N kills (.region id ops draw)=some ic) (h:AW P m ic Q st):AW P m ic (noExit Q) st:=by
 have hreg:∀ {os:List IOp} {k2 ks:List Nat} {Q:AExit→ASt→Prop},AW P m (cutIf ks (.region os k2)) Q st→AW P m (cutIf ks (.region os k2)) (noExit Q) st:=by
  intro os k2 ks Q h
  unfold cutIf at h ⊢
  split<;>rename_i hk
  ·rw [if_pos hk] at h;exact h
  ·rw [if_neg hk] at h;exact h
 have htree:∀ {t:AT} {ks:List Nat} {Q:AExit→ASt→Prop},AW P m (cutIf ks (.tree t)) Q st→AW P m (cutIf ks (.tree t)) (noExit Q) st:=by
  intro t ks Q h
  unfold cutIf at h ⊢
  split<;>rename_i hk
  ·rw [if_pos hk] at h;exact h
  ·rw [if_neg hk] at h;exact h
 simp only [comp] at hc
 split at hc
 ·rename_i r hr
  injection hc with hc;subst hc
  unfold specIC at hr
  split at hr
  ·rename_i r' hh
   injection hr with hr;subst hr
   unfold Jthb at hh
   split at hh
   ·split at hh
    ·split at hh
     ·injection hh with hh;subst hh;exact hreg h
     ·cases hh
    ·cases hh
   ·cases hh
  ·obtain ⟨_,_,_,_,t,_,_,_,rfl⟩:=Jt1fa hr
   exact htree h
 ·split at hc
  ·split at hc
   ·split at hc
    ·injection hc with hc;subst hc;exact hreg h
    ·split at hc
     ·injection hc with hc;subst hc;exact hreg h
     ·split at hc
      ·injection hc with hc;subst hc;exact hreg h
      ·cases hc
   ·injection hc with hc;subst hc;exact hreg h
  ·cases hc
theorem Jt5g{G G':List Nat}(hG:∀ l∈G,l∈G'){O:Nat→Prop}{m:Nat}{g0:Gh}{w0:World}{D0:List Deferred}{Q:AExit→ASt→Prop}:∀ e a w,PostG G N O m g0 w0 D0 Q e a w→PostG G' N O m g0 w0 D0 Q e a w:=by
 intro e a w h
 cases e with
 | goto l=>exact ⟨hG l h.1,h.2⟩
 | _=>exact h
theorem Jt1l9{c:Code}{Q:Exit→Act→World→Prop}{a:Act}{w:World}(h:c.wp P (fun e a w=>(∀ l,e=.goto l→findLabel c l=none)∧Q e a w) a w):(Code.scope c).wp P Q a w:=by
 intro b k cs
 obtain ⟨e,a₁,w₁,⟨hn,hq⟩,harr⟩:=h b (.inScope c::k) cs
 cases e with
 | normal=>exact ⟨.normal,a₁,w₁,hq,.head step_scope (Steps.trans harr (.one step_inScope))⟩
 | exit id=>exact ⟨.exit id,a₁,w₁,hq,fun k' hk=>.head step_scope (harr k' (by simp [exitTo,hk]))⟩
 | goto l=>exact ⟨.goto l,a₁,w₁,hq,fun k' hk=>.head step_scope (harr k' (by simp [gotoIn,hn l rfl,hk]))⟩
 | ret=>exact ⟨_,a₁,w₁,hq,.of_steps (.one step_scope) harr⟩
 | panic ch=>exact ⟨_,a₁,w₁,hq,.of_steps (.one step_scope) harr⟩
 | outgrown=>exact ⟨_,a₁,w₁,hq,.of_steps (.one step_scope) harr⟩
theorem Jt1la{c rest:Code}{S:Type}(l:Nat)(R:S→Act→World→Prop)(μ:S→Nat){Q:Exit→Act→World→Prop}{a:Act}{w:World}(hf:findLabel c l=some rest)
  (first:c.wp P (Exit.jump l (fun a w=>∃ s,R s a w) Q) a w)
  (pass:∀ s a w,R s a w→rest.wp P (Exit.jump l (fun a' w'=>∃ s',R s' a' w'∧μ s'<μ s) Q) a w):(Code.scope c).wp P Q a w:=by
 intro b k cs
 have hg:gotoIn l (.inScope c::k)=some (.code rest::.inScope c::k):=by simp [gotoIn,hf]
 have key:∀ n s a w,μ s=n→R s a w→∃ e a' w',Q e a' w'∧Arrives P (lone (b.at a (.code rest::.inScope c::k)) cs w) b k cs e a' w':=by
  intro n
  induction n using Nat.strongRecOn with
  | _ n ih=>
   intro s a w hn hJ
   obtain ⟨e,a₁,w₁,hq,harr⟩:=pass s a w hJ b (.inScope c::k) cs
   cases e with
   | normal=>exact ⟨.normal,a₁,w₁,hq,Steps.trans harr (.one step_inScope)⟩
   | exit id=>exact ⟨.exit id,a₁,w₁,hq,fun k' hk=>harr k' (by simp [exitTo,hk])⟩
   | goto l'=>
    obtain ⟨rfl,s',hJ',hlt⟩:=hq
    obtain ⟨e₂,a₂,w₂,hq₂,harr₂⟩:=ih (μ s') (by omega) s' a₁ w₁ rfl hJ'
    exact ⟨e₂,a₂,w₂,hq₂,.of_steps (harr _ hg) harr₂⟩
   | ret=>exact ⟨_,a₁,w₁,hq,harr⟩
   | panic ch=>exact ⟨_,a₁,w₁,hq,harr⟩
   | outgrown=>exact ⟨_,a₁,w₁,hq,harr⟩
 obtain ⟨e,a₁,w₁,hq,harr⟩:=first b (.inScope c::k) cs
 cases e with
 | normal=>exact ⟨.normal,a₁,w₁,hq,.head step_scope (Steps.trans harr (.one step_inScope))⟩
 | exit id=>exact ⟨.exit id,a₁,w₁,hq,fun k' hk=>.head step_scope (harr k' (by simp [exitTo,hk]))⟩
 | goto l'=>
  obtain ⟨rfl,s',hJ'⟩:=hq
  obtain ⟨e₂,a₂,w₂,hq₂,harr₂⟩:=key _ s' a₁ w₁ rfl hJ'
  exact ⟨e₂,a₂,w₂,hq₂,.of_steps (.head step_scope (harr _ hg)) harr₂⟩
 | ret=>exact ⟨_,a₁,w₁,hq,.of_steps (.one step_scope) harr⟩
 | panic ch=>exact ⟨_,a₁,w₁,hq,.of_steps (.one step_scope) harr⟩
 | outgrown=>exact ⟨_,a₁,w₁,hq,.of_steps (.one step_scope) harr⟩
def csz:Code→Nat
 | .seq a b=>csz a+csz b+1
 | .cond _ a b=>csz a+csz b+1
 | .block _ c=>csz c+1
 | .loop c=>csz c+1
 | .scope c=>csz c+1
 | _=>1
theorem Jt15y:∀ (c:Code) {l:Nat} {y:IC},restIC P N kills c l=some y→∃ rest,findLabel c l=some rest∧comp P N kills rest=some y∧csz rest≤csz c∧∀ k∈gotos rest,k∈gotos c:=by
 intro c
 induction c with
 | seq a b iha ihb=>
  intro l y h
  simp only [restIC] at h
  split at h
  ·rename_i r hr
   split at h
   ·rename_i z hz
    injection h with h;subst h
    obtain ⟨rest,h1,h2,h3,h4⟩:=iha hr
    refine ⟨.seq rest b,by simp [findLabel,h1],by simp [comp,h2,hz],by simp only [csz];omega,fun k hk=>?_⟩
    simp only [gotos,List.mem_append] at hk ⊢
    exact hk.imp (h4 k) id
   ·cases h
  ·split at h
   ·cases h
   ·rename_i hn
    obtain ⟨rest,h1,h2,h3,h4⟩:=ihb h
    refine ⟨rest,by simp [findLabel,hn,h1],h2,by simp only [csz];omega,fun k hk=>?_⟩
    simp only [gotos,List.mem_append]
    exact .inr (h4 k hk)
 | label l'=>
  intro l y h
  simp only [restIC] at h
  split at h
  ·rename_i hl
   injection h with h;subst h
   exact ⟨.skip,by simp [findLabel,hl],by simp [comp],by simp [csz],fun k hk=>by simp [gotos] at hk⟩
  ·cases h
 | _=>intro l y h;simp [restIC] at h
theorem Jtn(hm:P.follows .mixedOrders=true):∀ (n:Nat) (c:Code),csz c≤n→∀ {ic:IC} {O:Nat→Prop} {m:Nat} {g0:Gh} {w0:World} {D0:List Deferred} {Q:AExit→ASt→Prop} {st:ASt} {g:Gh} {a:Act} {w:World},
  comp P N kills c=some ic→Here N O m g0 w0 D0 st g a w→AW P m ic Q st→c.wp P (PostG (gotos c) N O m g0 w0 D0 Q) a w:=by
 intro n
 induction n with
 | zero=>intro c hz;cases c<;>simp [csz] at hz
 | succ n ih=>
 intro c hz ic O m g0 w0 D0 Q st g a w hc h haw
 cases c with
 | skip=>
  simp only [comp] at hc;injection hc with hc;subst hc
  exact wp_skip ⟨st,g,haw,h⟩
 | region id ops draw=>exact wp_mono (Jt153 hm hc h (Jt152 hc haw)) Post_G
 | seq x y=>
  simp only [comp] at hc
  simp only [csz] at hz
  split at hc
  ·rename_i ix iy hx hy
   injection hc with hc;subst hc
   refine wp_seq (wp_mono (ih x (by omega) hx h haw) ?_)
   intro e a w h
   cases e with
   | normal=>
    obtain ⟨st,g,h1,h2⟩:=h
    exact wp_mono (ih y (by omega) hy h2 h1) (Jt5g fun l hl=>by simp [gotos,hl])
   | goto l=>exact ⟨by simp [gotos,h.1],h.2⟩
   | _=>exact h
  ·cases hc
 | cond c x y=>
  simp only [comp] at hc
  simp only [csz] at hz
  split at hc
  ·rename_i co ix iy hco hx hy
   injection hc with hc;subst hc
   obtain ⟨t,ht,h1,h2⟩:=haw
   have hv:=(Jtfd h.sim hco ht).1.bool_inv
   refine wp_cond hv ?_
   cases t with
   | true=>exact wp_mono (ih x (by omega) hx h (h1 rfl)) (Jt5g fun l hl=>by simp [gotos,hl])
   | false=>exact wp_mono (ih y (by omega) hy h (h2 rfl)) (Jt5g fun l hl=>by simp [gotos,hl])
  ·cases hc
 | block id c=>
  simp only [comp] at hc
  simp only [csz] at hz
  split at hc
  rotate_left
  ·cases hc
  rename_i hid0
  split at hc
  ·rename_i ix hx
   injection hc with hc;subst hc
   refine wp_block (wp_mono (ih c (by omega) hx h haw) ?_)
   intro e a' w' hp
   cases e with
   | exit id'=>
    obtain ⟨hlt,st',g',h1,h2⟩:=hp
    simp only [AExit.inBlock] at h1
    simp only [Exit.inBlock]
    split at h1
    ·rename_i hid;subst hid;rw [if_pos rfl];exact ⟨st',g',h1,h2⟩
    ·rename_i hid;rw [if_neg hid];exact ⟨hlt,st',g',h1,h2⟩
   | goto l=>
    obtain ⟨hl,st',g',h1,h2⟩:=hp
    simp only [AExit.inBlock] at h1
    rw [if_neg (by omega)] at h1
    exact ⟨hl,st',g',h1,h2⟩
   | _=>exact hp
  ·cases hc
 | loop c=>
  simp only [comp] at hc
  simp only [csz] at hz
  split at hc
  ·rename_i ix hx
   injection hc with hc;subst hc
   obtain ⟨S,I,μ,⟨s0,st0,hw,hI⟩,hround⟩:=haw
   refine Jt1l8 (S:=S) (fun s a w=>∃ st,I s st∧∃ g,Here N O m g0 w0 D0 st g a w) μ (s:=s0) ⟨st0,hI,_,h.weak hw⟩ ?_
   rintro s a' w' ⟨st1,hIs,g',hh⟩
   refine wp_mono (ih c (by omega) hx hh (hround s st1 hIs)) ?_
   intro e a2 w2 hp
   cases e with
   | normal=>
    obtain ⟨st',g2,⟨s2,st2,k1,k2,k3⟩,h2⟩:=hp
    exact ⟨s2,⟨st2,k2,_,h2.weak k1⟩,k3⟩
   | _=>exact hp
  ·cases hc
 | scope c=>
  simp only [comp] at hc
  simp only [csz] at hz
  split at hc
  ·rename_i hn
   refine Jt1l9 (wp_mono (ih c (by omega) hc h haw) ?_)
   intro e a' w' hp
   refine ⟨fun l he=>?_,?_⟩
   ·subst he
    have:=List.find?_eq_none.1 hn l hp.1
    simpa using this
   ·cases e with
    | goto l=>exact ⟨by simp [gotos,hp.1],hp.2⟩
    | _=>exact hp
  ·rename_i l hl
   split at hc
   ·rename_i ix iy hx hy
    injection hc with hc;subst hc
    obtain ⟨S,I,μ,h1,h2⟩:=haw
    obtain ⟨rest,r1,r2,r3,r4⟩:=Jt15y c hy
    have key:∀ (J:ASt→Prop) (J':Act→World→Prop),(∀ st g a w,J st→Here N O m g0 w0 D0 st g a w→J' a w)→∀ (G:List Nat),(∀ k∈G,k∈gotos c)→∀ e a w,PostG G N O m g0 w0 D0 (AExit.jump (gB+l) J Q) e a w→
      Exit.jump l J' (PostG (gotos (.scope c)) N O m g0 w0 D0 Q) e a w:=by
     intro J J' hJ G hG e a w hp
     cases e with
     | goto l'=>
      obtain ⟨_,st',g',k1,k2⟩:=hp
      simp only [AExit.jump] at k1
      rw [if_pos (by omega)] at k1
      exact ⟨by omega,hJ st' g' a w k1.2 k2⟩
     | exit i=>
      obtain ⟨hlt,st',g',k1,k2⟩:=hp
      simp only [AExit.jump] at k1
      rw [if_neg (by omega)] at k1
      exact ⟨hlt,st',g',k1,k2⟩
     | normal=>exact hp
     | ret=>exact hp
     | panic x=>exact hp
     | outgrown=>exact hp
    refine Jt1la (S:=S) l (fun s a w=>∃ st,I s st∧∃ g,Here N O m g0 w0 D0 st g a w) μ r1 (wp_mono (ih c (by omega) hx h h1) (key _ _ ?_ _ fun _ hk=>hk)) ?_
    ·rintro st g a w ⟨s,st2,k1,k2⟩ hh
     exact ⟨s,st2,k2,_,hh.weak k1⟩
    ·rintro s a w ⟨st1,hI,g1,hh⟩
     refine wp_mono (ih rest (by omega) r2 hh (h2 s st1 hI)) (key _ _ ?_ _ r4)
     rintro st g a w ⟨s',st2,k1,k2,k3⟩ hh
     exact ⟨s',⟨st2,k2,_,hh.weak k1⟩,k3⟩
   ·cases hc
 | label l=>
  simp only [comp] at hc;injection hc with hc;subst hc
  exact wp_label ⟨st,g,haw,h⟩
 | exit id=>
  simp only [comp] at hc
  split at hc
  ·rename_i hlt
   injection hc with hc;subst hc
   exact wp_exit ⟨hlt,st,g,haw,h⟩
  ·cases hc
 | goto l=>
  simp only [comp] at hc;injection hc with hc;subst hc
  exact wp_goto ⟨by simp [gotos],st,g,haw,h⟩
 | ret=>
  simp only [comp] at hc;injection hc with hc;subst hc
  exact wp_ret ⟨st,g,haw,h⟩
 | _=>simp [comp] at hc
theorem Jtm(hm:P.follows .mixedOrders=true)(c:Code){ic:IC}{O:Nat→Prop}{m:Nat}{g0:Gh}{w0:World}{D0:List Deferred}{Q:AExit→ASt→Prop}{st:ASt}{g:Gh}{a:Act}{w:World}
  (hc:comp P N kills c=some ic) (h:Here N O m g0 w0 D0 st g a w) (haw:AW P m ic Q st) (hQ:∀ i st,¬ Q (.exit i) st):c.wp P (Post N O m g0 w0 D0 Q) a w:=by
 refine wp_mono (Jtn hm (csz c) c (Nat.le_refl _) hc h haw) ?_
 intro e a w hp
 cases e with
 | goto l=>obtain ⟨_,st',_,h1,_⟩:=hp;exact (hQ _ st' h1).elim
 | exit i=>exact hp.2
 | _=>exact hp
end
section
variable {P:Program}
def resOne(P:Program)(st:ASt):ResultVar→Option AV
 | .tmp t=>(get st.env t).map AV.erase
 | .cell b ty=>match ldN P ty with
  | some n=>(opV st (.load n (.t b))).map AV.erase
  | none=>none
def resL(P:Program)(st:ASt):List ResultVar→Option (List AV)
 | []=>some []
 | r::rs=>match resOne P st r,resL P st rs with | some x,some xs=>some (x::xs) | _,_=>none
def resV(P:Program)(st:ASt):List ResultVar→Option AV
 | [.tmp t]=>(get st.env t).map AV.unview
 | [.cell b ty]=>resOne P st (.cell b ty)
 | rs=>(resL P st rs).map .tup
def AWend(P:Program)(rs:List ResultVar)(m:Nat)(Q:AOut→List Blk→Prop):AExit→ASt→Prop
 | .exit _,_=>False
 | .panic x,st=>∃ x' H',Wk m ⟨[(0,x.erase)],st.H⟩ ⟨[(0,x')],H'⟩∧Q (.pan x') H'
 | _,st=>∃ x,resV P st rs=some x∧∃ x' H',Wk m ⟨[(0,x)],st.H⟩ ⟨[(0,x')],H'⟩∧Q (.ret x') H'
end
section
variable {P:Program} {N:Nat} {st:ASt} {g:Gh} {a:Act} {w:World}
theorem Sim.frame(hs:Sim N st g a w){N':Nat}{a':Act}(h:∀ t x,get st.env t=some x→a'.tmps.getD t undef=a.tmps.getD t undef)(hz:N'≤a'.tmps.size):
  Sim N' st g a' w∧∀ r,Mine st g a' w r→Mine st g a w r:=by
 have hRP:∀ p x,AP st p=some x→RP g.φ a' w p=RP g.φ a w p:=by
  intro p x hp
  cases p with
  | tmp t=>simp only [RP];rw [h t x hp]
  | cell b j=>rfl
 have hO:∀ p r,Owner st g.φ a' w p r→Owner st g.φ a w p r:=fun p r ⟨e,rows,v,h1,h2,h3⟩=>⟨e,rows,v,h1,by rw [←hRP p _ h1];exact h2,h3⟩
 refine ⟨{ size:=hz,env:=?_,inj:=hs.inj,lt:=hs.lt,dom:=hs.dom,mem:=hs.mem,iter:=hs.iter,glob:=hs.glob,own:=?_,excl:=?_,apart:=?_,view:=?_},?_⟩
 ·intro t x hx;rw [h t x hx];exact hs.env t x hx
 ·intro p e rows v h1 h2;rw [hRP p _ h1] at h2;exact hs.own p e rows v h1 h2
 ·exact fun p p' r h h'=>hs.excl p p' r (hO p r h) (hO p' r h')
 ·exact fun p r b h=>hs.apart p r b (hO p r h)
 ·intro t org e rows ht
  obtain ⟨h1,h2⟩:=hs.view t org e rows ht
  exact ⟨h1,by rw [hRP org _ h1,h t _ ht];exact h2⟩
 ·rintro r (⟨b,hb⟩ | ⟨p,hp⟩)
  ·exact .inl ⟨b,hb⟩
  ·exact .inr ⟨p,hO p r hp⟩
theorem Sim.res(hs:Sim N st g a w){x:AV}{v:Value}(hr:Rel g.F g.φ w x.erase v)(hv:∀ org e rows,x≠.view org e rows)
  (hx:∀ e rows,x=.own e rows→∃ t,get st.env t=some (.own e rows)∧v=a.tmps.getD t undef) :
  Sim 1 ⟨[(0,x)],st.H⟩ g ⟨#[v],[]⟩ w∧∀ r,Mine ⟨[(0,x)],st.H⟩ g ⟨#[v],[]⟩ w r→Mine st g a w r:=by
 have hAP:∀ p e rows,AP ⟨[(0,x)],st.H⟩ p=some (.own e rows)→(p=.tmp 0∧x=.own e rows)∨(∃ b j,p=.cell b j∧AP st p=some (.own e rows)):=by
  intro p e rows h
  cases p with
  | tmp t=>
   simp only [AP,get] at h
   split at h
   ·rename_i ht;subst ht;injection h with h;exact .inl ⟨rfl,h⟩
   ·cases h
  | cell b j=>exact .inr ⟨b,j,rfl,h⟩
 have hO:∀ p r,Owner ⟨[(0,x)],st.H⟩ g.φ ⟨#[v],[]⟩ w p r→(p=.tmp 0∧∃ t,Owner st g.φ a w (.tmp t) r)∨(∃ b j,p=.cell b j∧Owner st g.φ a w p r):=by
  rintro p r ⟨e,rows,u,h1,h2,h3⟩
  rcases hAP p e rows h1 with ⟨rfl,hxe⟩ | ⟨b,j,rfl,h⟩
  ·obtain ⟨t,ht,hvt⟩:=hx e rows hxe
   simp [RP] at h2
   exact .inl ⟨rfl,t,e,rows,u,ht,by simp only [RP];rw [←hvt,h2],h3⟩
  ·exact .inr ⟨b,j,rfl,e,rows,u,h,h2,h3⟩
 have hO':∀ p r,Owner ⟨[(0,x)],st.H⟩ g.φ ⟨#[v],[]⟩ w p r→∃ p',Owner st g.φ a w p' r:=by
  intro p r h
  rcases hO p r h with ⟨_,t,h⟩ | ⟨b,j,_,h⟩
  ·exact ⟨_,h⟩
  ·exact ⟨_,h⟩
 refine ⟨{ size:=by simp,env:=?_,inj:=hs.inj,lt:=hs.lt,dom:=hs.dom,mem:=hs.mem,iter:=hs.iter,glob:=hs.glob,own:=?_,excl:=?_,apart:=?_,view:=?_},?_⟩
 ·intro t y h
  simp only [get] at h
  split at h
  ·rename_i ht;subst ht;injection h with h;subst h;simpa using hr
  ·cases h
 ·intro p e rows u h1 h2
  rcases hAP p e rows h1 with ⟨rfl,hxe⟩ | ⟨b,j,rfl,h⟩
  ·obtain ⟨t,ht,hvt⟩:=hx e rows hxe
   simp [RP] at h2
   exact hs.own (.tmp t) e rows u ht (by simp only [RP];rw [←hvt,h2])
  ·exact hs.own _ e rows u h h2
 ·intro p p' r h h'
  rcases hO p r h with ⟨rfl,t,h⟩ | ⟨b,j,rfl,h⟩<;>rcases hO p' r h' with ⟨rfl,t',h'⟩ | ⟨b',j',rfl,h'⟩
  ·rfl
  ·have:=hs.excl _ _ r h h';cases this
  ·have:=hs.excl _ _ r h h';cases this
  ·exact hs.excl _ _ r h h'
 ·intro p r b h
  obtain ⟨p',h⟩:=hO' p r h
  exact hs.apart p' r b h
 ·intro t org e rows h
  simp only [get] at h
  split at h
  ·injection h with h;exact absurd h (hv org e rows)
  ·cases h
 ·rintro r (⟨b,hb⟩ | ⟨p,hp⟩)
  ·exact .inl ⟨b,hb⟩
  ·exact .inr (hO' p r hp)
theorem Jtpl{t:TypeId}{x v:Value}{b:Nat}{o:Oper}(ho:o.op=.load t (.tmp b)) {ev:Operand→Value} (hx:ev (.tmp b)=x) (h:(execOp ev o).run P w=.ok (.value v) w):(do loadVar t (←asAddr x)).run P w=.ok v w:=by
 unfold execOp at h
 simp only [ho,Instr.loadAt,hx] at h
 cases x<;>simp only [Instr.sureAddr,asAddr] at h ⊢
 case pointer ad=>
  cases ad with
  | none=>simp [stuck] at h
  | some ad=>
   simp only [Sem.run_bind,Sem.run_pure,Result.andThen_ok] at h ⊢
   cases hr:(loadVar t ad).run P w with
   | ok u w'=>
    rw [hr] at h
    simp only [Result.andThen_ok,Sem.run_pure] at h
    injection h with h1 h2
    injection h1 with h1
    rw [h1,h2]
   | halt z w'=>rw [hr] at h;simp [Result.andThen] at h
 all_goals simp [stuck] at h
def rd(tmps:Array Value):ResultVar→Sem Value
 | .tmp t=>pure (tmps.getD t undef)
 | .cell b t=>do loadVar t (←asAddr (tmps.getD b undef))
theorem Jt15x(hs:Sim N st g a w){r:ResultVar}{x:AV}(h:resOne P st r=some x):∃ v,(rd a.tmps r).run P w=.ok v w∧Rel g.F g.φ w x v∧x.erase=x:=by
 cases r with
 | tmp t=>
  simp only [resOne,omS] at h
  obtain ⟨y,hy,rfl⟩:=h
  exact ⟨_,rfl,hs.env t y hy,Jtf7 y⟩
 | cell b t=>
  simp only [resOne] at h
  split at h
  ·rename_i n hn
   rw [omS] at h
   obtain ⟨y,hy,rfl⟩:=h
   have hc:cOp P (({ dst:=none,op:=.load t (.tmp b),type:=default,guard:=none,after:=#[],pos:=default}:Oper)).op=some (.load n (.t b)):=by
    simp [cOp,hn,cmp1,cOpd]
   obtain ⟨v,h1,h2,_,_⟩:=Jtul hs hc hy
   exact ⟨v,Jtpl rfl (x:=a.tmps.getD b undef) rfl h1,h2,Jtf7 y⟩
  ·cases h
theorem Jt15w(hs:Sim N st g a w):∀ {rs:List ResultVar} {xs:List AV},resL P st rs=some xs→
  ∃ vs:List Value,(rs.mapM (rd a.tmps)).run P w=.ok vs w∧vs.length=rs.length∧RelL g.F g.φ w xs vs:=by
 intro rs
 induction rs with
 | nil=>
  intro xs h
  simp only [resL] at h;injection h with h;subst h
  exact ⟨[],by simp,rfl,rfl,fun j x u h=>by simp at h⟩
 | cons r rs ih=>
  intro xs h
  simp only [resL] at h
  split at h
  ·rename_i y ys hy hys
   injection h with h;subst h
   obtain ⟨v,h1,h2,h3⟩:=Jt15x hs hy
   obtain ⟨vs,k1,k2,k3⟩:=ih hys
   refine ⟨v::vs,?_,by simp [k2],by have:=k3.1;simp [this],fun j x u hx hu=>?_⟩
   ·rw [List.mapM_cons]
    simp only [Sem.run_bind,h1,Result.andThen_ok,k1,Sem.run_pure]
   ·cases j with
    | zero=>simp at hx hu;subst hx;subst hu;exact h2
    | succ j=>simp at hx hu;exact k3.2 j x u hx hu
  ·cases h
theorem Jt15z{fn:Func}{tmps:Array Value}{vs:List Value}(h:(fn.results.toList.mapM (rd tmps)).run P w=.ok vs w) :
  (results fn tmps).run P w=.ok (if h:vs.toArray.size=1 then vs.toArray[0] else .tuple vs.toArray) w:=by
 have he:results fn tmps=(do let vs ←fn.results.mapM (rd tmps);pure (if h:vs.size=1 then vs[0] else .tuple vs)):=rfl
 rw [he,Array.mapM_eq_mapM_toList]
 simp only [map_eq_pure_bind,Sem.run_bind,h,Result.andThen_ok,Sem.run_pure]
theorem Jt160(hs:Sim N st g a w){fn:Func}{x:AV}(h:resV P st fn.results.toList=some x):
  ∃ v,(results fn a.tmps).run P w=.ok v w∧Rel g.F g.φ w x.erase v∧(∀ org e rows,x≠.view org e rows)∧(∀ e rows,x=.own e rows→∃ t,get st.env t=some (.own e rows)∧v=a.tmps.getD t undef):=by
 unfold resV at h
 split at h
 ·rename_i t hrs
  rw [omS] at h
  obtain ⟨y,hy,rfl⟩:=h
  refine ⟨a.tmps.getD t undef,?_,by rw [Jt1fh];exact hs.env t y hy,fun org e rows=>Jt1fi y org e rows,fun e rows hx=>⟨t,by rw [←Jt1fj.1 hx];exact hy,rfl⟩⟩
  have:=Jt15z (P:=P) (w:=w) (fn:=fn) (tmps:=a.tmps) (vs:=[a.tmps.getD t undef]) (by rw [hrs];simp [rd])
  simpa using this
 ·rename_i b t hrs
  obtain ⟨v,h1,h2,h3⟩:=Jt15x hs h
  refine ⟨v,?_,by rw [h3];exact h2,fun org e rows hx=>?_,fun e rows hx=>?_⟩
  ·have:=Jt15z (P:=P) (w:=w) (fn:=fn) (tmps:=a.tmps) (vs:=[v]) (by rw [hrs];simp [h1])
   simpa using this
  ·exact absurd (h3.trans hx) (Jtu8 x org e rows)
  ·exact absurd (h3.trans hx) (Jtu7 x e rows)
 ·rename_i hn1 hn2
  rw [omS] at h
  obtain ⟨xs,hxs,rfl⟩:=h
  obtain ⟨vs,h1,h2,h3⟩:=Jt15w hs hxs
  have hlen:vs.length≠1:=by
   intro hl
   rw [h2] at hl
   obtain ⟨r,hr⟩:=List.length_eq_one_iff.1 hl
   cases r with
   | tmp t=>exact hn1 t hr
   | cell b t=>exact hn2 b t hr
  refine ⟨.tuple vs.toArray,?_,.tup xs vs h3.1 h3.2,fun org e rows hx=>(by cases hx),fun e rows hx=>(by cases hx)⟩
  have:=Jt15z (P:=P) (w:=w) h1
  rw [this,dif_neg (by simpa using hlen)]
theorem Jtab(hm:P.follows .mixedOrders=true){f:Nat}{fn:Func}{c:Code}{kills:List (List Nat)} {ic:IC} {args:List AV} {H:List Blk} {Q:AOut→List Blk→Prop} (hf:P.funcs[f]?=some fn)
  (hb:fn.body=some c) (hc:comp P fn.ntmps kills c=some ic) (hn:args.length≤fn.ntmps) (h:AW P H.length ic (AWend P fn.results.toList H.length Q) ⟨enum 0 args,H⟩):Jt51 P f args H Q:=by
 intro g vs w hsz hsim
 refine calls_of_wp hf hb ?_
 have hfr:=hsim.frame (N':=fn.ntmps) (a':={ tmps:=vs++Array.replicate (fn.ntmps-vs.size) undef,defers:=[]}) (fun t x hx=>by
  rw [Jtgq] at hx
  have:t<vs.size:=by rw [hsz];exact (lgS.1 hx).1
  rw [Array.getD_eq_getD_getElem?,Array.getD_eq_getD_getElem?,Array.getElem?_append_left this]) (by simp;omega)
 have here:Here fn.ntmps (Mine ⟨enum 0 args,H⟩ g ⟨vs,[]⟩ w) H.length g w [] ⟨enum 0 args,H⟩ g { tmps:=vs++Array.replicate (fn.ntmps-vs.size) undef,defers:=[]} w:=
  ⟨hfr.1,Tr.refl _ _ _,fun r hr=>.inl (hfr.2 r hr),fun _ _ _ h=>h,Nat.le_refl _,rfl⟩
 refine wp_mono (Jtm (kills:=kills) hm c hc here h fun i st h=>h) ?_
 have fin:∀ (st:ASt) (g':Gh) (a':Act) (w':World) (x:AV) (v:Value) (mk:AV→AOut),(∀ y,(mk y).val=y)→(∀ y z,AOut.ending v (mk y)=AOut.ending v (mk z))→Here fn.ntmps (Mine ⟨enum 0 args,H⟩ g ⟨vs,[]⟩ w) H.length g w [] st g' a' w'→
   Sim 1 ⟨[(0,x)],st.H⟩ g' ⟨#[v],[]⟩ w'→(∀ r,Mine ⟨[(0,x)],st.H⟩ g' ⟨#[v],[]⟩ w' r→Mine st g' a' w' r)→(∃ x' H',Wk H.length ⟨[(0,x)],st.H⟩ ⟨[(0,x')],H'⟩∧Q (mk x') H')→
   ∃ o H' g2 v',Q o H'∧AOut.ending v (mk x)=AOut.ending v' o∧Sim 1 ⟨[(0,o.val)],H'⟩ g2 ⟨#[v'],[]⟩ w'∧Tr (Mine ⟨enum 0 args,H⟩ g ⟨vs,[]⟩ w) g w g2 w'∧
    (∀ b r,b<H.length→g.φ b=some r→g2.φ b=some r)∧H.length≤H'.length∧
    (∀ r,Mine ⟨[(0,o.val)],H'⟩ g2 ⟨#[v'],[]⟩ w' r→Mine ⟨enum 0 args,H⟩ g ⟨vs,[]⟩ w r∨w.heap.size≤r):=by
  rintro st g' a' w' x v mk hmk hend hh hs1 hm1 ⟨x',H',hw,hQ⟩
  obtain ⟨k1,k2,k3,k4⟩:=hs1.weak hw
  refine ⟨mk x',H',_,v,hQ,hend _ _,by rw [hmk];exact k1,hh.tr.trans (k2.mono hm1) hh.mine,fun b r hb hr=>k4 b r hb (hh.keep b r hb hr),hw.ge,fun r hr=>?_⟩
  rw [hmk] at hr
  exact hh.mine r (hm1 r (k3 r hr))
 have ret:∀ (st:ASt) (g':Gh) (a':Act) (w':World),(∃ x,resV P st fn.results.toList=some x∧∃ x' H',Wk H.length ⟨[(0,x)],st.H⟩ ⟨[(0,x')],H'⟩∧Q (.ret x') H')→
   Here fn.ntmps (Mine ⟨enum 0 args,H⟩ g ⟨vs,[]⟩ w) H.length g w [] st g' a' w'→a'.defers=[]∧∃ v,(results fn a'.tmps).run P w'=.ok v w'∧∃ o H' g2 v',Q o H'∧Ending.returned v=AOut.ending v' o∧Sim 1 ⟨[(0,o.val)],H'⟩ g2 ⟨#[v'],[]⟩ w'∧Tr (Mine ⟨enum 0 args,H⟩ g ⟨vs,[]⟩ w) g w g2 w'∧
    (∀ b r,b<H.length→g.φ b=some r→g2.φ b=some r)∧H.length≤H'.length∧
    (∀ r,Mine ⟨[(0,o.val)],H'⟩ g2 ⟨#[v'],[]⟩ w' r→Mine ⟨enum 0 args,H⟩ g ⟨vs,[]⟩ w r∨w.heap.size≤r):=by
  rintro st g' a' w' ⟨x,hx,hw⟩ hh
  obtain ⟨v,h1,h2,h3,h4⟩:=Jt160 hh.sim hx
  obtain ⟨s1,s2⟩:=hh.sim.res h2 h3 h4
  exact ⟨hh.df,v,h1,fin st g' a' w' x v .ret (fun _=>rfl) (fun _ _=>rfl) hh s1 s2 hw⟩
 intro e a' w' hp
 cases e with
 | normal=>obtain ⟨st,g',h1,h2⟩:=hp;exact ret st g' a' w' h1 h2
 | ret=>obtain ⟨st,g',h1,h2⟩:=hp;exact ret st g' a' w' h1 h2
 | panic chain=>
  obtain ⟨x,v,st,g',rfl,h1,h2,h3⟩:=hp
  obtain ⟨s1,s2⟩:=h2.sim.res (x:=x.erase) (v:=v) (by rw [Jtf7];exact h3) (fun org e rows=>Jtu8 x org e rows) (fun e rows he=>absurd he (Jtu7 x e rows))
  exact ⟨h2.df,fin st g' a' w' x.erase v .pan (fun _=>rfl) (fun _ _=>rfl) h2 s1 s2 h1⟩
 | exit id=>obtain ⟨st,g',h1,h2⟩:=hp;exact h1.elim
 | goto l=>exact hp.elim
 | outgrown=>exact hp.elim
end
section
variable {P:Program} {QP QP':AV→ASt→Prop} {K K':ASt→Prop}
theorem Jt4w(hK:∀ st,K st→K' st){io:AO}{dst:Option Nat}{st:ASt}(h:AWval io dst K st):AWval io dst K' st:=by
 obtain ⟨x,h1,h2⟩:=h;exact ⟨x,h1,hK _ h2⟩
theorem Jt1d(hK:∀ st,K st→K' st)(hQ:∀ x st,QP x st→QP' x st){q:Bool}{f:Nat}{args:List AV}{dst:Option Nat}{st:ASt}(h:AWcall P q f args dst K QP st):AWcall P q f args dst K' QP' st:=by
 rcases h with ⟨cargs,x,h1,h2,h3,h4⟩ | ⟨hq,⟨cargs,h1,h2⟩ | ⟨bs,h1,cargs,Hp,Hc,h2,h3,h4,h5⟩⟩
 ·exact .inl ⟨cargs,x,h1,h2,h3,hK _ h4⟩
 ·refine .inr ⟨hq,.inl ⟨cargs,h1,h2.mono ?_⟩⟩
  rintro o H' ⟨hc,h⟩
  refine ⟨hc,?_⟩
  cases o with
  | ret x=>exact hK _ h
  | pan x=>exact hQ _ _ h
 ·refine .inr ⟨hq,.inr ⟨bs,h1,cargs,Hp,Hc,h2,h3,h4,h5.mono ?_⟩⟩
  rintro o H' ⟨e,Hb,y,k1,k2,k3,k4⟩
  refine ⟨e,Hb,y,k1,k2,k3,?_⟩
  cases o with
  | ret x=>exact hK _ k4
  | pan x=>exact hQ _ _ k4
theorem Jt3v(hK:∀ st,K st→K' st){m:MO}{dst:Option Nat}{st:ASt}(h:AWmo m dst K st):AWmo m dst K' st:=by
 cases m with
 | mk=>exact fun r=>hK _ (h r)
 | set x k v=>obtain ⟨h0,r,n,b,es,c,h1,h2,h3,h4,h5⟩:=h;exact ⟨h0,r,n,b,es,c,h1,h2,h3,h4,hK _ h5⟩
 | del x k=>exact h.elim
 | get x k=>obtain ⟨r,n,b,es,c,h1,h2,h3,h4⟩:=h;exact ⟨r,n,b,es,c,h1,h2,h3,hK _ h4⟩
 | len x=>obtain ⟨r,b,es,c,h1,h2,h3⟩:=h;exact ⟨r,b,es,c,h1,h2,hK _ h3⟩
 | rng x=>obtain ⟨r,b,es,c,h1,h2,h3⟩:=h;exact ⟨r,b,es,c,h1,h2,fun r'=>hK _ (h3 r')⟩
 | nxt x=>obtain ⟨bi,r',r,b,es,c,seen,h1,h2,h3,h4,h5,h6⟩:=h;exact ⟨bi,r',r,b,es,c,seen,h1,h2,h3,h4,fun e he hs=>hK _ (h5 e he hs),fun hs=>hK _ (h6 hs)⟩
 | ent x=>obtain ⟨bi,r',r,b,es,c,seen,e,h1,h2,h3,h4,h5,h6⟩:=h;exact ⟨bi,r',r,b,es,c,seen,e,h1,h2,h3,h4,h5,hK _ h6⟩
 | mks esz bytes z l c=>obtain ⟨n,h1,h2,h3,h4,h5,h6,h7,h8,h9⟩:=h;exact ⟨n,h1,h2,h3,h4,h5,h6,h7,h8,hK _ h9⟩
theorem Jt2w(hK:∀ st,K st→K' st)(hQ:∀ x st,QP x st→QP' x st){q:Bool}{io:AO}{dst:Option Nat}{st:ASt}(h:AWio P q io dst K QP st):AWio P q io dst K' QP' st:=by
 cases io
 case asg y=>
  cases y with
  | c z=>exact Jt4w hK h
  | t i=>
   simp only [AWio] at h ⊢
   split at h
   ·obtain ⟨h1,d,h2,h3,h4⟩:=h;exact ⟨h1,d,h2,h3,hK _ h4⟩
   ·exact Jt4w hK h
 case take y=>
  cases y with
  | c z=>exact Jt4w hK h
  | t i=>
   simp only [AWio] at h ⊢
   split at h
   ·obtain ⟨h1,d,h2,h3,h4⟩:=h;exact ⟨h1,d,h2,h3,hK _ h4⟩
   ·obtain ⟨h1,d,h2,h3,h4⟩:=h;exact ⟨h1,d,h2,h3,hK _ h4⟩
   ·exact Jt4w hK h
 case rng x=>
  refine ⟨h.1,?_⟩
  have h:=h.2
  unfold AWrng at h ⊢
  split at h
  ·exact hK _ h
  ·exact h.elim
 case nxt x=>
  refine ⟨h.1,?_⟩
  have h:=h.2
  unfold AWnxt at h ⊢
  split at h
  ·split at h
   ·exact ⟨fun hp=>hK _ (h.1 hp),fun hp=>hK _ (h.2 hp)⟩
   ·exact h.elim
  ·exact h.elim
 case mo m=>exact ⟨h.1,Jt3v hK h.2⟩
 case box=>obtain ⟨h1,k,h2,h3⟩:=h;exact ⟨h1,k,h2,hK _ h3⟩
 case alloc=>obtain ⟨k,h2,h3⟩:=h;exact ⟨k,h2,hK _ h3⟩
 case isnil neg x=>
  refine ⟨h.1,?_⟩
  have h:=h.2
  unfold Jt3k at h ⊢
  split at h
  ·exact hK _ h
  ·exact ⟨hK _ h.1,hK _ h.2⟩
  ·exact ⟨fun e=>hK _ (h.1 e),hK _ h.2⟩
  ·exact h.elim
 case bslice esz len z parts=>
  simp only [AWio] at h ⊢
  split at h
  ·rename_i hl;rw [if_pos hl];exact hK _ h
  ·rename_i hl;rw [if_neg hl];obtain ⟨h1,h2,h3,rows,h4,h5⟩:=h;exact ⟨h1,h2,h3,rows,h4,hK _ h5⟩
 case store n x v=>
  obtain ⟨h0,b,off,cells,h1,h2,h3⟩:=h
  refine ⟨h0,b,off,cells,h1,h2,?_⟩
  cases v with
  | c y=>
   simp only [ev] at h3 ⊢
   exact ⟨h3.1,h3.2.1,h3.2.2.1,hK _ h3.2.2.2⟩
  | t i=>
   cases hv:ev st.env (.t i) with
   | none=>rw [hv] at h3;exact h3.elim
   | some y=>
    rw [hv] at h3
    cases y<;>first|exact ⟨h3.1,h3.2.1,hK _ h3.2.2⟩ | exact ⟨h3.1,h3.2.1,h3.2.2.1,hK _ h3.2.2.2⟩
 case storeq n x v ls=>
  obtain ⟨h0,b,off,cells,y,h1,h2,h3,h4,h5,h6,h7,h8,h9,h10⟩:=h
  exact ⟨h0,b,off,cells,y,h1,h2,h3,h4,h5,h6,h7,h8,h9,hK _ h10⟩
 case pan x=>
  obtain ⟨h0,t,y,h1,h2⟩:=h
  exact ⟨h0,t,y,h1,hQ _ _ h2⟩
 case app esz bytes x y=>
  have m0:AWapp0 esz bytes y dst K st→AWapp0 esz bytes y dst K' st:=by
   rintro ⟨ys,k1,k2,k3,k4,k5,k6,k7⟩
   exact ⟨ys,k1,k2,k3,k4,k5,fun h=>hK _ (k6 h),fun h=>hK _ (k7 h)⟩
  have m1:AWapp esz bytes x y dst K st→AWapp esz bytes x y dst K' st:=by
   rintro ⟨org,e,rows,ys,h1,h2,h3,h4,h5,h6,h7,h8⟩
   exact ⟨org,e,rows,ys,h1,h2,h3,h4,h5,h6,h7,hK _ h8⟩
  have m2:Jts esz bytes y dst K st→Jts esz bytes y dst K' st:=by
   rintro ⟨ys,k1,k2,k3,k4,k5,k6,k7⟩
   exact ⟨ys,k1,k2,k3,k4,k5,k6,hK _ k7⟩
  have m3:AWapph esz bytes x y dst K st→AWapph esz bytes x y dst K' st:=by
   rintro ⟨b,len,cells,ys,k1,k2,k3,k4,k5,k6,k7,k8,k9,k10,k11,k12,k13⟩
   exact ⟨b,len,cells,ys,k1,k2,k3,k4,k5,k6,k7,k8,k9,k10,k11,hK _ k12,hK _ k13⟩
  have m4:Jtw esz bytes x y dst K st→Jtw esz bytes x y dst K' st:=by
   rintro ⟨b,ys,k1,k2,k3,k4,k5,k6,k7,k8,k9,k10⟩
   exact ⟨b,ys,k1,k2,k3,k4,k5,k6,k7,k8,hK _ k9,hK _ k10⟩
  simp only [AWio] at h ⊢
  split at h
  ·exact h.imp m0 fun h=>⟨h.1,m2 h.2⟩
  ·rcases h with ⟨h1,h2⟩ | ⟨h1,h2⟩
   ·exact .inl ⟨h1,m0 h2⟩
   ·exact .inr ⟨h1,h2.imp m1 m2⟩
  ·exact ⟨h.1,m3 h.2⟩
  ·exact ⟨h.1,m4 h.2⟩
  ·exact ⟨h.1,m1 h.2⟩
 case mkslice=>
  obtain ⟨h0,l,c,h1,h2,h3,h4,h5,h6,h7⟩:=h
  refine ⟨h0,l,c,h1,h2,h3,h4,h5,h6,?_⟩
  rcases h7 with ⟨k1,k2⟩ | ⟨k1,k2⟩
  ·exact .inl ⟨k1,k2.imp (hK _) (hK _)⟩
  ·exact .inr ⟨k1,k2.imp (hK _) (hK _)⟩
 case clr=>
  refine ⟨h.1,?_⟩
  have h:=h.2
  unfold AWclr at h ⊢
  refine ⟨h.1,h.2.1,?_⟩
  have h:=h.2.2
  split at h
  ·obtain ⟨h1,h6,cells,h2,h3,h4,h5⟩:=h;exact ⟨h1,h6,cells,h2,h3,h4,hK _ h5⟩
  ·exact h.elim
 case cpy=>
  refine ⟨h.1,?_⟩
  have h:=h.2
  unfold AWcpy at h ⊢
  obtain ⟨ys,h1,h2,h3⟩:=h
  refine ⟨ys,h1,h2,?_⟩
  split at h3
  ·obtain ⟨k1,k2,k3,k4⟩:=h3
   refine ⟨k1,k2,fun h=>hK _ (k3 h),fun h=>?_⟩
   obtain ⟨cells,c1,c2,c3,c4⟩:=k4 h
   exact ⟨cells,c1,c2,c3,hK _ c4⟩
  ·exact hK _ h3
  ·exact hK _ h3
  ·exact hK _ h3
  ·exact h3.elim
 case appq esz bytes x y i=>
  have m0:AWapp0 esz bytes y dst K st→AWapp0 esz bytes y dst K' st:=by
   rintro ⟨ys,k1,k2,k3,k4,k5,k6,k7⟩
   exact ⟨ys,k1,k2,k3,k4,k5,fun h=>hK _ (k6 h),fun h=>hK _ (k7 h)⟩
  cases x with
  | c z=>exact absurd h.2 id
  | t a=>
   simp only [AWio] at h ⊢
   refine ⟨h.1,?_⟩
   replace h:=h.2
   split at h
   ·obtain ⟨e1,e2,e3,e4,e5,d,ys,h1,h2,h3,h4,h5,h6,h7,h8,h9,h10⟩:=h
    exact ⟨e1,e2,e3,e4,e5,d,ys,h1,h2,h3,h4,h5,h6,h7,h8,h9,hK _ h10⟩
   ·exact m0 h
   ·exact m0 h
   ·exact h.elim
 case call=>obtain ⟨as,h1,h2⟩:=h;exact ⟨as,h1,Jt1d hK hQ h2⟩
 case callv=>obtain ⟨f,as,bs,cs,h1,h2,h3,h4⟩:=h;exact ⟨f,as,bs,cs,h1,h2,h3,Jt1d hK hQ h4⟩
 all_goals exact Jt4w hK h
theorem Jt3z(hK:∀ st,K st→K' st)(hQ:∀ x st,QP x st→QP' x st){o:IOp}{st:ASt}(h:AWop P o K QP st):AWop P o K' QP' st:=by
 unfold AWop at h ⊢
 refine ⟨h.1,?_⟩
 replace h:=h.2
 split at h
 ·exact Jt2w hK hQ h
 ·split at h
  ·exact ⟨fun hb=>Jt2w hK hQ (h.1 hb),fun hb=>hK _ (h.2 hb)⟩
  ·exact hK _ h
  ·exact h.elim
theorem Jt4i(hQ:∀ x st,QP x st→QP' x st):∀ {os:List IOp} {K K':ASt→Prop} {st:ASt},(∀ st,K st→K' st)→AWops P QP os K st→AWops P QP' os K' st:=by
 intro os
 induction os with
 | nil=>intro K K' st hK h;exact hK _ h
 | cons o os ih=>intro K K' st hK h;exact Jt3z (fun st h=>ih hK h) hQ h
theorem Jt5(hQ:∀ x st,QP x st→QP' x st):∀ {t:AT} {K K':ASt→Prop} {st:ASt},(∀ st,K st→K' st)→AWT P QP t K st→AWT P QP' t K' st:=by
 intro t
 induction t with
 | done=>intro K K' st hK h;exact hK _ h
 | step o t ih=>intro K K' st hK h;exact Jt3z (fun st h=>ih hK h) hQ h
 | alt a b iha ihb=>intro K K' st hK h;exact ⟨iha hK h.1,ihb hK h.2⟩
theorem Jtj{m:Nat}:∀ (c:IC) {Q Q':AExit→ASt→Prop} {st:ASt},(∀ e st,Q e st→Q' e st)→AW P m c Q st→AW P m c Q' st:=by
 intro c
 induction c with
 | skip=>intro Q Q' st hq h;exact hq _ _ h
 | region ops ks=>intro Q Q' st hq h;exact Jt4i (fun x st h=>hq _ _ h) (fun st h=>hq _ _ h) h
 | seq a b iha ihb=>
  intro Q Q' st hq h
  refine iha (fun e st h=>?_) h
  cases e with
  | normal=>exact ihb hq h
  | exit i=>exact hq _ _ h
  | ret=>exact hq _ _ h
  | panic x=>exact hq _ _ h
 | cond c a b iha ihb=>intro Q Q' st hq h;obtain ⟨t,h1,h2,h3⟩:=h;exact ⟨t,h1,fun ht=>iha hq (h2 ht),fun ht=>ihb hq (h3 ht)⟩
 | block id c ih=>
  intro Q Q' st hq h
  refine ih (fun e st h=>?_) h
  cases e with
  | exit i=>simp only [AExit.inBlock] at h ⊢;split at h<;>rename_i hi<;>simp only [hi,if_true,if_false]<;>exact hq _ _ h
  | normal=>exact hq _ _ h
  | ret=>exact hq _ _ h
  | panic x=>exact hq _ _ h
 | loop c ih=>
  intro Q Q' st hq h
  obtain ⟨S,I,μ,h1,h2⟩:=h
  refine ⟨S,I,μ,h1,fun s st hI=>ih (fun e st' h=>?_) (h2 s st hI)⟩
  cases e with
  | normal=>exact h
  | exit i=>exact hq _ _ h
  | ret=>exact hq _ _ h
  | panic x=>exact hq _ _ h
 | exit id=>intro Q Q' st hq h;exact hq _ _ h
 | ret=>intro Q Q' st hq h;exact hq _ _ h
 | cut=>
  intro Q Q' st hq h
  rcases h with h | ⟨st2,h1,h2 | ⟨i,j,st3,st4,h3,h4,h5⟩⟩
  ·exact .inl (hq _ _ h)
  ·exact .inr ⟨st2,h1,.inl (hq _ _ h2)⟩
  ·exact .inr ⟨st2,h1,.inr ⟨i,j,st3,st4,h3,h4,hq _ _ h5⟩⟩
 | jump id a b iha ihb=>
  intro Q Q' st hq h
  have key:∀ (J:ASt→Prop) (e:AExit) (st:ASt),AExit.jump id J Q e st→AExit.jump id J Q' e st:=by
   intro J e st h
   cases e with
   | exit i=>simp only [AExit.jump] at h ⊢;split at h<;>rename_i hi<;>simp only [hi,if_true,if_false]<;>first|exact h|exact hq _ _ h
   | normal=>exact hq _ _ h
   | ret=>exact hq _ _ h
   | panic x=>exact hq _ _ h
  obtain ⟨S,I,μ,h1,h2⟩:=h
  exact ⟨S,I,μ,iha (key _) h1,fun s st hI=>ihb (key _) (h2 s st hI)⟩
 | tree t=>intro Q Q' st hq h;exact Jt5 (fun _ _ h=>h) (fun st h=>hq _ _ h) h
end
inductive RV where
 | tmp (t:Nat)
 | cell (b:Nat) (n:Option Nat)
def cRes(P:Program):List ResultVar→Option (List RV)
 | []=>some []
 | .tmp t::r=>(cRes P r).map (.tmp t::·)
 | .cell b ty::r=>match ldN P ty,cRes P r with | some n,some xs=>some (.cell b n::xs) | _,_=>none
def rOne(st:ASt):RV→Option AV
 | .tmp t=>(get st.env t).map AV.erase
 | .cell b n=>(opV st (.load n (.t b))).map AV.erase
def rAll(st:ASt):List RV→Option (List AV)
 | []=>some []
 | r::rs=>match rOne st r,rAll st rs with | some x,some xs=>some (x::xs) | _,_=>none
def rV(st:ASt):List RV→Option AV
 | [.tmp t]=>(get st.env t).map AV.unview
 | [.cell b n]=>rOne st (.cell b n)
 | rs=>(rAll st rs).map .tup
theorem Jty2{P:Program}{st:ASt}:∀ {rs:List ResultVar} {qs:List RV},cRes P rs=some qs→rAll st qs=resL P st rs:=by
 intro rs
 induction rs with
 | nil=>intro qs h;simp [cRes] at h;subst h;rfl
 | cons r rs ih=>
  intro qs h
  cases r with
  | tmp t=>
   simp only [cRes,omS] at h
   obtain ⟨xs,h1,rfl⟩:=h
   simp only [rAll,resL,rOne,resOne,ih h1]<;>rfl
  | cell b ty=>
   simp only [cRes] at h
   split at h
   ·rename_i n xs hn hxs
    injection h with h;subst h
    simp only [rAll,resL,rOne,resOne,hn,ih hxs]<;>rfl
   ·cases h
theorem rV_eq{P:Program}{st:ASt}{rs:List ResultVar}{qs:List RV}(h:cRes P rs=some qs):rV st qs=resV P st rs:=by
 match rs,qs,h with
 | [],qs,h=>simp [cRes] at h;subst h;rfl
 | [.tmp t],qs,h=>simp [cRes] at h;subst h;rfl
 | [.cell b ty],qs,h=>
  simp only [cRes] at h
  split at h
  ·rename_i n xs hn hxs
   injection hxs with hxs;subst hxs
   injection h with h;subst h
   simp only [rV,resV,rOne,resOne,hn]
  ·cases h
 | r::r'::rs,qs,h=>
  have h2:=Jty2 (st:=st) h
  have hq:∃ q q' qs',qs=q::q'::qs':=by
   cases r<;>cases r'<;>simp only [cRes] at h
   ·simp only [omS] at h;obtain ⟨a,⟨b,_,rfl⟩,rfl⟩:=h;exact ⟨_,_,_,rfl⟩
   ·rw [omS] at h;obtain ⟨a,ha,rfl⟩:=h
    split at ha
    ·injection ha with ha;subst ha;exact ⟨_,_,_,rfl⟩
    ·cases ha
   ·split at h
    ·rename_i n xs hn hxs
     rw [omS] at hxs;obtain ⟨b,_,rfl⟩:=hxs
     injection h with h;subst h;exact ⟨_,_,_,rfl⟩
    ·cases h
   ·split at h
    ·rename_i n xs hn hxs
     split at hxs
     ·injection hxs with hxs;subst hxs;injection h with h;subst h;exact ⟨_,_,_,rfl⟩
     ·cases hxs
    ·cases h
  obtain ⟨q,q',qs',rfl⟩:=hq
  have e1:rV st (q::q'::qs')=(rAll st (q::q'::qs')).map .tup:=by cases q<;>rfl
  have e2:resV P st (r::r'::rs)=(resL P st (r::r'::rs)).map .tup:=by cases r<;>rfl
  rw [e1,e2,h2]
def Fin(rs:List RV)(m:Nat)(Q:AOut→List Blk→Prop):AExit→ASt→Prop
 | .exit _,_=>False
 | .panic x,st=>∃ x' H',Wk m ⟨[(0,x.erase)],st.H⟩ ⟨[(0,x')],H'⟩∧Q (.pan x') H'
 | _,st=>∃ x,rV st rs=some x∧∃ x' H',Wk m ⟨[(0,x)],st.H⟩ ⟨[(0,x')],H'⟩∧Q (.ret x') H'
structure Has (P:Program) (n:Nat) (k:Nat) (rs:List RV) (ic:IC):Prop where
 hm:P.follows .mixedOrders=true
 ok:okFn P n=true
 fn:∃ fn c,P.funcs[n]?=some fn∧fn.body=some c∧(∃ kills,comp P fn.ntmps kills c=some ic)∧cRes P fn.results.toList=some rs∧k≤fn.ntmps
theorem Has.calls{P:Program}{n k:Nat}{rs:List RV}{ic:IC}(h:Has P n k rs ic){args:List AV}{H:List Blk}{Q:AOut→List Blk→Prop}(hk:args.length=k)(hb:AW P H.length ic (Fin rs H.length Q) ⟨enum 0 args,H⟩) :
  Jt51 P n args H Q:=by
 obtain ⟨hm,_,fn,c,h1,h2,⟨kills,h3⟩,h4,h5⟩:=h
 refine Jtab hm h1 h2 h3 (by omega) (Jtj ic ?_ hb)
 intro e st he
 cases e with
 | exit i=>exact he
 | panic x=>exact he
 | normal=>obtain ⟨x,hx,r⟩:=he;exact ⟨x,by rw [←rV_eq h4];exact hx,r⟩
 | ret=>obtain ⟨x,hx,r⟩:=he;exact ⟨x,by rw [←rV_eq h4];exact hx,r⟩
theorem Jt7y:(fun b=>if b<([]:List Blk).length then some b else none)=none1:=by funext b;simp [none1]
theorem Jt67{st:ASt}{x:AV}(hc:x.erase.ren none1=some x.erase):Wk 0 ⟨[(0,x)],st.H⟩ ⟨[(0,x.erase)],[]⟩:=by
 refine ⟨?_,by simp,by simp,by simp⟩
 intro p hp
 simp at hp;subst hp
 refine ⟨x,by simp [get],.inl (.erase x ?_)⟩
 simp only [Jt7y];exact hc
theorem Jt57{rs:List RV}{Q:AOut→List Blk→Prop}{st:ASt}(x:AV)(h:rV st rs=some x)(hc:x.erase.ren none1=some x.erase)(hq:Q (.ret x.erase) []):Fin rs 0 Q .ret st:=⟨x,h,x.erase,[],Jt67 hc,hq⟩
theorem Jt54{rs:List RV}{Q:AOut→List Blk→Prop}{st:ASt}(x:AV)(h:rV st rs=some x)(hc:x.erase.ren none1=some x.erase)(hq:Q (.ret x.erase) []):Fin rs 0 Q .normal st:=⟨x,h,x.erase,[],Jt67 hc,hq⟩
theorem Jt55{rs:List RV}{Q:AOut→List Blk→Prop}{st:ASt}(e:Nat)(rows:List (List D)) (h:rV st rs=some (.own e rows)) (hq:Q (.ret (.own e rows)) []):Fin rs 0 Q .ret st:=by
 refine ⟨_,h,_,[],⟨?_,by simp,by simp,by simp⟩,hq⟩
 intro p hp
 simp at hp;subst hp
 exact ⟨.own e rows,by simp [get],.inl (.refl _ (by simp [AV.ren]))⟩
theorem Jt17{P:Program}{q:Bool}{f:Nat}{args cargs:List AV}{x:AV}{dst:Option Nat}{K:ASt→Prop}{QP:AV→ASt→Prop}{st:ASt}(h:Jt51 P f cargs [] fun o _=>o=.ret x)
  (ha:renL none1 args=some cargs) (hx:x.ren none1=some x) (hK:K (put dst x st)):AWcall P q f args dst K QP st:=.inl ⟨cargs,x,ha,h,hx,hK⟩
section
variable {P:Program} {m:Nat} {Q:AExit→ASt→Prop} {st:ASt}
theorem Jtl:AW P m .skip Q st↔Q .normal st:=Iff.rfl
theorem AW_seq{a b:IC}:AW P m (.seq a b) Q st↔AW P m a (AExit.then (AW P m b Q) Q) st:=Iff.rfl
theorem Jt8{c:Opd}{a b:IC}:AW P m (.cond c a b) Q st↔∃ t,evr st.env c=some (.d (.bool t))∧(t=true→AW P m a Q st)∧(t=false→AW P m b Q st):=Iff.rfl
theorem Jt7{id:Nat}{c:IC}:AW P m (.block id c) Q st↔AW P m c (AExit.inBlock id Q) st:=Iff.rfl
theorem Jtc{id:Nat}:AW P m (.exit id) Q st↔Q (.exit id) st:=Iff.rfl
theorem AW_ret:AW P m .ret Q st↔Q .ret st:=Iff.rfl
theorem Jtf{S:Type}(F:S→ASt)(Inv:S→Prop)(μ:S→Nat){c:IC}(s0:S)(h0:Inv s0)(hw:Wk m st (F s0))
  (hround:∀ s,Inv s→∀ N:ASt→Prop,(∀ st' s',Inv s'→Wk m st' (F s')→μ s'<μ s→N st')→AW P m c (AExit.then N Q) (F s)):AW P m (.loop c) Q st:=by
 refine ⟨S,fun s st=>Inv s∧F s=st,μ,⟨s0,_,hw,h0,rfl⟩,?_⟩
 rintro s st ⟨hI,rfl⟩
 refine Jtj c ?_ (hround s hI (fun st'=>∃ s',Inv s'∧Wk m st' (F s')∧μ s'<μ s) (fun st' s' h1 h2 h3=>⟨s',h1,h2,h3⟩))
 intro e st' h
 cases e with
 | normal=>obtain ⟨s',h1,h2,h3⟩:=h;exact ⟨s',_,h2,⟨h1,rfl⟩,h3⟩
 | exit i=>exact h
 | ret=>exact h
 | panic x=>exact h
end
section
variable (K:ASt→Prop) (dst:Option Nat) (st:ASt)
def go1:Option AV→Prop
 | some x=>K (put dst x st)
 | none=>False
def go2:Option Blk→Prop
 | some k=>K (put dst (.ptr st.H.length 0) ⟨st.env,st.H++[k]⟩)
 | none=>False
def goR(esz:Nat):Option (List (List D))→Prop
 | some rows=>K (put dst (.own esz rows) st)
 | none=>False
def goS3(n b off:Nat)(cells:List AV):Opd→Option AV→Prop
 | .t i,some (.own e rows)=>n=1∧off<cells.length∧K ⟨(i,.d (.sl rows))::unview st.env,st.H.set b (.mem (cells.set off (.own e rows)))⟩
 | _,some y=>y.erase.cells.length=n∧off+n≤cells.length∧y.erase.cells.all AV.leaf=true∧K ⟨unview st.env,st.H.set b (.mem (spl cells off y.erase.cells))⟩
 | _,none=>False
def goS2(n b off:Nat)(v:Opd)(y:Option AV):Option Blk→Prop
 | some (.mem cells)=>goS3 K st n b off cells v y
 | _=>False
def goS1(n:Nat)(v:Opd):Option AV→Prop
 | some (.ptr b off)=>goS2 K st n b off v (ev st.env v) st.H[b]?
 | _=>False
def goT3(n b off:Nat)(cells:List AV)(ls:List (Nat × Nat)):Option AV→Prop
 | some y=>y.cells.length=n∧off+n≤cells.length∧y.cells.all AV.leaf=true∧y.cells.all AV.notOwn=true∧((cells.drop off).take n).all AV.notOwn=true∧ls.all (awayL st.env b off n)=true∧
   K ⟨st.env,st.H.set b (.mem (spl cells off y.cells))⟩
 | none=>False
def goT2(n b off:Nat)(ls:List (Nat × Nat)) (y:Option AV):Option Blk→Prop
 | some (.mem cells)=>goT3 K st n b off cells ls y
 | _=>False
def goT1(n:Nat)(v:Opd)(ls:List (Nat × Nat)):Option AV→Prop
 | some (.ptr b off)=>goT2 K st n b off ls (evr st.env v) st.H[b]?
 | _=>False
def goP(QP:AV→ASt→Prop):Option AV→Prop
 | some (.iface t y)=>QP (.iface t y) st
 | _=>False
def goA(esz bytes:Nat):Option (Option Place × Nat × List (List D))→Option (List (List D))→Prop
 | some (org,e,rows),some ys=>(org.isSome→e=esz)∧(∀ r∈ys,r.length=esz)∧0<esz∧rows.length+ys.length≤1000000000000000000∧(rows.length+ys.length)*bytes≤140737488355328∧
   K (put dst (.own esz (rows++ys)) (match org with | some p=>dropOwn p rows st | none=>st))
 | _,_=>False
def goQ1(esz bytes a i:Nat)(rows:List (List D)):Option (List (List D))→Option Nat→Prop
 | some ys,some d=>get st.env i=some (.own esz rows)∧a≠i∧NV a i st.env∧d≠a∧d≠i∧(∀ e r,get st.env d≠some (.own e r))∧(∀ r∈ys,r.length=esz)∧0<esz∧
   rows.length+ys.length≤1000000000000000000∧(rows.length+ys.length)*bytes≤140737488355328∧
   K ⟨(d,.own esz (rows++ys))::(a,.d (.sl rows))::(i,.d (.sl rows))::st.env,st.H⟩
 | _,_=>False
def goZ(esz bytes:Nat):Option (List (List D))→Prop
 | some []=>0<esz∧K (put dst .nile st)
 | some (y::ys)=>(∀ r∈y::ys,r.length=esz)∧0<esz∧(y::ys).length≤1000000000000000000∧(y::ys).length*bytes≤140737488355328∧K (put dst (.own esz (y::ys)) st)
 | none=>False
def goQ(P:Program)(esz bytes a i:Nat)(y:Opd):Option AV→Prop
 | some (.view (.tmp i') e rows)=>i'=i∧e=esz∧goQ1 K st esz bytes a i rows (Jt7n st.env y) dst
 | some .nils=>goZ K dst st esz bytes (Jt7n st.env y)
 | some .nile=>goZ K dst st esz bytes (Jt7n st.env y)
 | _=>False
def nvB(a i:Nat):List (Nat × AV)→Bool
 | []=>true
 | (t,x)::r=>(t==a||(match x with | .view (.tmp j) _ _=>j != i | _=>true))&&nvB a i r
theorem NV_of{a i:Nat}:∀ {env:List (Nat × AV)},nvB a i env=true→NV a i env:=by
 intro env
 induction env with
 | nil=>intro _ t e rows _ h;cases h
 | cons p r ih=>
  obtain ⟨k,x⟩:=p
  intro h t e rows hta hg
  simp only [nvB,Bool.and_eq_true,Bool.or_eq_true,beq_iff_eq] at h
  by_cases hk:k=t
  ·subst hk
   simp only [get,if_pos] at hg
   injection hg with hg;subst hg
   rcases h.1 with h1 | h1
   ·exact hta h1
   ·simp at h1
  ·rw [get,if_neg hk] at hg
   exact ih h.2 t e rows hta hg
def goG(q:Bool):Opd→Option AV→Prop
 | .t i,some (.own e rows)=>q=false∧∃ d,dst=some d∧d≠i∧K ⟨(d,.own e rows)::(i,.d (.sl rows))::unview st.env,st.H⟩
 | .c _,some (.own ..)=>False
 | _,some y=>K (put dst y.erase st)
 | _,none=>False
def regEnd(Q:AExit→ASt→Prop)(ks:List Nat)(st:ASt):Prop:=Q .normal ⟨unview (kill ks st.env),st.H⟩
def panEnd(Q:AExit→ASt→Prop)(x:AV)(st:ASt):Prop:=Q (.panic x) st
theorem Jtk{P:Program}{m:Nat}{Q:AExit→ASt→Prop}{ops:List IOp}{ks:List Nat}{st:ASt}:AW P m (.region ops ks) Q st↔AWops P (panEnd Q) ops (regEnd Q ks) (Jt1dh ks st):=Iff.rfl
theorem Jt1dj{st:ASt}:Jt1dh [] st=st:=rfl
theorem Jt1di{k:Nat}{ks:List Nat}{st:ASt}:Jt1dh (k::ks) st=⟨unview st.env,st.H⟩:=rfl
theorem Jt150{Q:AExit→ASt→Prop}{ks:List Nat}{env:List (Nat × AV)} {H:List Blk}:regEnd Q ks ⟨env,H⟩↔Q .normal ⟨unview (kill ks env),H⟩:=Iff.rfl
def noEnd:AV→ASt→Prop:=fun _ _=>False
theorem Jto{P:Program}{m:Nat}{Q:AExit→ASt→Prop}{t:AT}{st:ASt}:AW P m (.tree t) Q st↔AWT P noEnd t (regEnd Q []) st:=Iff.rfl
theorem Jt4{P:Program}{QP:AV→ASt→Prop}{K:ASt→Prop}{st:ASt}:AWT P QP .done K st↔K st:=Iff.rfl
theorem Jt6{P:Program}{QP:AV→ASt→Prop}{K:ASt→Prop}{o:IOp}{t:AT}{st:ASt}:AWT P QP (.step o t) K st↔AWop P o (AWT P QP t K) QP st:=Iff.rfl
theorem Jt3{P:Program}{QP:AV→ASt→Prop}{K:ASt→Prop}{a b:AT}{st:ASt}:AWT P QP (.alt a b) K st↔AWT P QP a K st∧AWT P QP b K st:=Iff.rfl
theorem Jt4j{P:Program}{QP:AV→ASt→Prop}{K:ASt→Prop}{st:ASt}:AWops P QP [] K st↔K st:=Iff.rfl
theorem Jt4h{P:Program}{QP:AV→ASt→Prop}{K:ASt→Prop}{o:IOp}{os:List IOp}{st:ASt}:AWops P QP (o::os) K st↔AWop P o (AWops P QP os K) QP st:=Iff.rfl
def goC(P:Program)(q:Bool)(f:Nat)(QP:AV→ASt→Prop):Option (List AV)→Prop
 | some as=>AWcall P q f as dst K QP st
 | none=>False
end
section
variable {P:Program} {K:ASt→Prop} {QP:AV→ASt→Prop} {dst:Option Nat} {st:ASt} {q:Bool}
theorem ex_go1{o:Option AV}:(∃ x,o=some x∧K (put dst x st))↔go1 K dst st o:=by
 constructor
 ·rintro ⟨x,rfl,h⟩;exact h
 ·intro h;cases o with
  | none=>exact h.elim
  | some x=>exact ⟨x,rfl,h⟩
theorem Jt4v{io:AO}:AWval io dst K st↔go1 K dst st (opV st io):=ex_go1
theorem Jt1t{x:Opd}:AWio P false (.box x) dst K QP st↔go2 K dst st (opB st (.box x)):=by
 constructor
 ·rintro ⟨_,k,h1,h2⟩;rw [h1];exact h2
 ·intro h
  cases hk:opB st (.box x) with
  | none=>rw [hk] at h;exact h.elim
  | some k=>rw [hk] at h;exact ⟨rfl,k,hk,h⟩
theorem Jt1j{z:List AV}:AWio P q (.alloc z) dst K QP st↔go2 K dst st (opB st (.alloc z)):=by
 constructor
 ·rintro ⟨k,h1,h2⟩;rw [h1];exact h2
 ·intro h
  cases hk:opB st (.alloc z) with
  | none=>rw [hk] at h;exact h.elim
  | some k=>rw [hk] at h;exact ⟨k,hk,h⟩
theorem Jt1u{esz len:Nat}{z:List D}{ps:List (Nat × Opd)}:AWio P q (.bslice esz len z ps) dst K QP st↔if len=0 then K (put dst .nile st) else 0<esz∧z.length=esz∧len*esz≤16777216∧goR K dst st esz (Jtxq (List.replicate len z) esz st.env ps):=by
 simp only [AWio]
 by_cases hl:len=0
 ·rw [if_pos hl,if_pos hl]
 ·rw [if_neg hl,if_neg hl]
  constructor
  ·rintro ⟨h1,h2,h3,rows,h4,h5⟩;exact ⟨h1,h2,h3,by rw [h4];exact h5⟩
  ·rintro ⟨h1,h2,h3,h⟩
   cases hk:Jtxq (List.replicate len z) esz st.env ps with
   | none=>rw [hk] at h;exact h.elim
   | some rows=>rw [hk] at h;exact ⟨h1,h2,h3,rows,rfl,h⟩
theorem Jt3e{n:Nat}{x v:Opd}:AWio P false (.store n x v) dst K QP st↔goS1 K st n v (evr st.env x):=by
 constructor
 ·rintro ⟨_,b,off,cells,h1,h2,h3⟩
  rw [h1];simp only [goS1];rw [h2];simp only [goS2]
  cases v with
  | c y=>exact h3
  | t i=>
   cases hv:ev st.env (.t i) with
   | none=>rw [hv] at h3;exact h3.elim
   | some y=>rw [hv] at h3;cases y<;>exact h3
 ·intro h
  unfold goS1 at h
  split at h
  ·rename_i b off hx
   unfold goS2 at h
   split at h
   ·rename_i cells hc
    refine ⟨rfl,b,off,cells,hx,hc,?_⟩
    cases v with
    | c y=>exact h
    | t i=>
     cases hv:ev st.env (.t i) with
     | none=>rw [hv] at h;exact h.elim
     | some y=>rw [hv] at h;cases y<;>exact h
   ·exact h.elim
  ·exact h.elim
theorem Jt3f{n:Nat}{x v:Opd}{ls:List (Nat × Nat)}:AWio P true (.storeq n x v ls) dst K QP st↔goT1 K st n v ls (evr st.env x):=by
 constructor
 ·rintro ⟨_,b,off,cells,y,h1,h2,h3,h⟩
  rw [h1];simp only [goT1];rw [h2,h3];exact h
 ·intro h
  unfold goT1 at h
  split at h
  ·rename_i b off hx
   unfold goT2 at h
   split at h
   ·rename_i cells hc
    cases hy:evr st.env v with
    | none=>rw [hy] at h;exact h.elim
    | some y=>rw [hy] at h;exact ⟨rfl,b,off,cells,y,hx,hc,hy,h⟩
   ·exact h.elim
  ·exact h.elim
theorem Jt35{x:Opd}:AWio P false (.pan x) dst K QP st↔goP st QP (evr st.env x):=by
 constructor
 ·rintro ⟨_,t,y,h1,h2⟩;rw [h1];exact h2
 ·intro h
  unfold goP at h
  split at h
  ·rename_i t y hx;exact ⟨rfl,t,y,hx,h⟩
  ·exact h.elim
theorem Jtu{esz bytes:Nat}{x y:Opd}:AWapp esz bytes x y dst K st↔goA K dst st esz bytes (Jth4 st.env x) (Jt7n st.env y):=by
 constructor
 ·rintro ⟨org,e,rows,ys,h1,h2,h3⟩;rw [h1,h2];exact h3
 ·intro h
  cases h1:Jth4 st.env x with
  | none=>rw [h1] at h;exact h.elim
  | some t=>
   obtain ⟨org,e,rows⟩:=t
   cases h2:Jt7n st.env y with
   | none=>rw [h1,h2] at h;exact h.elim
   | some ys=>rw [h1,h2] at h;exact ⟨org,e,rows,ys,h1,h2,h⟩
theorem Jt1q{x:Opd}(hq:q=false):AWio P q (.asg x) dst K QP st↔goG K dst st q x (ev st.env x):=by
 cases x with
 | c y=>
  simp only [AWio,Jt4v,opV,ev]
  cases y<;>simp [goG,go1,AV.erase]
 | t i=>
  simp only [AWio,Jt4v,opV,ev]
  cases hg:get st.env i with
  | none=>simp [goG,go1]
  | some y=>cases y<;>simp [goG,go1,AV.erase]
theorem Jtq{esz bytes:Nat}{y:Opd}:AWapp0 esz bytes y dst K st↔goZ K dst st esz bytes (Jt7n st.env y):=by
 unfold AWapp0
 cases h:Jt7n st.env y with
 | none=>simp [goZ]
 | some ys=>
  cases ys with
  | nil=>simp [goZ]
  | cons y ys=>simp [goZ]
theorem Jt1p{esz bytes a i:Nat}{y:Opd}:AWio P true (.appq esz bytes (.t a) y i) dst K QP st↔goQ K dst st P esz bytes a i y (get st.env a):=by
 simp only [AWio]
 cases h:get st.env a with
 | none=>simp [goQ]
 | some x=>
  cases x with
  | view org e rows=>
   cases org with
   | cell b j=>simp [goQ]
   | tmp i'=>
    simp only [goQ]
    constructor
    ·rintro ⟨_,e1,e2,k1,k2,k3,d,ys,k4,k5,k6,k7,k8,k9⟩
     subst k4;rw [k8];exact ⟨e1,e2,k1,k2,k3,k5,k6,k7,k9⟩
    ·rintro ⟨e1,e2,h⟩
     refine ⟨trivial,e1,e2,?_⟩
     unfold goQ1 at h
     split at h
     ·rename_i ys d h8
      obtain ⟨k1,k2,k3,k5,k6,k7,k9⟩:=h
      exact ⟨k1,k2,k3,d,ys,rfl,k5,k6,k7,h8,k9⟩
     ·exact h.elim
  | nils=>simp only [goQ,Jtq,true_and]
  | nile=>simp only [goQ,Jtq,true_and]
  | _=>simp [goQ]
theorem Jt5c{a i:Nat}{env:List (Nat × AV)} (h:nvB a i env=true):NV a i env↔True:=⟨fun _=>trivial,fun _=>NV_of h⟩
theorem Jt1x{f:Nat}{args:List Opd}:AWio P q (.call f args) dst K QP st↔goC K dst st P q f QP (evs st.env args):=by
 constructor
 ·rintro ⟨as,h1,h2⟩;rw [h1];exact h2
 ·intro h
  cases hk:evs st.env args with
  | none=>rw [hk] at h;exact h.elim
  | some as=>rw [hk] at h;exact ⟨as,hk,h⟩
end
section
variable {P:Program} {m:Nat} {Q:AExit→ASt→Prop} {st:ASt} {K:ASt→Prop} {QP:AV→ASt→Prop} {dst:Option Nat} {io:AO}
theorem Jt45:AWop P ⟨dst,io,none,false⟩ K QP st↔AWio P false io dst K QP st:=by
 unfold AWop qOk;simp
theorem Jt44{t:Nat}{want:Bool}(h:get st.env t=some (.d (.bool want))):AWop P ⟨dst,io,some (t,want),false⟩ K QP st↔AWio P false io dst K QP st:=by
 unfold AWop qOk;simp [h]
theorem Jt41{t:Nat}{want:Bool}(h:get st.env t=some (.d (.bool !want))):AWop P ⟨dst,io,some (t,want),false⟩ K QP st↔K (put dst (.tup []) st):=by
 unfold AWop qOk;cases want<;>simp [h]
theorem Jt42{t:Nat}(h:get st.env t=some (.d (.bool false))):AWop P ⟨dst,io,some (t,true),false⟩ K QP st↔K (put dst (.tup []) st):=Jt41 h
theorem Jt43{t:Nat}(h:get st.env t=some (.d (.bool true))):AWop P ⟨dst,io,some (t,false),false⟩ K QP st↔K (put dst (.tup []) st):=Jt41 h
theorem Jt40{t:Nat}{want:Bool}(h:get st.env t=some (.tup [])):AWop P ⟨dst,io,some (t,want),false⟩ K QP st↔K (put dst (.tup []) st):=by
 unfold AWop qOk;simp [h]
theorem Jt4b:AWop P ⟨dst,io,none,true⟩ K QP st↔qOk true dst st∧AWio P true io dst K QP st:=Iff.rfl
theorem Jt4g{t:Nat}{want q:Bool}(b:Bool)(h:get st.env t=some (.d (.bool b))) (h1:b=true→AWop P ⟨dst,io,some (t,want),q⟩ K QP st) (h2:b=false→AWop P ⟨dst,io,some (t,want),q⟩ K QP st):AWop P ⟨dst,io,some (t,want),q⟩ K QP st:=by
 cases b with
 | true=>exact h1 rfl
 | false=>exact h2 rfl
theorem Jtb{c:Opd}{a b:IC}(h:evr st.env c=some (.d (.bool true))):AW P m (.cond c a b) Q st↔AW P m a Q st:=by
 rw [Jt8,h];simp
theorem Jt9{c:Opd}{a b:IC}(h:evr st.env c=some (.d (.bool false))):AW P m (.cond c a b) Q st↔AW P m b Q st:=by
 rw [Jt8,h];simp
theorem Jta{c:Opd}{a b:IC}(t:Bool)(h:evr st.env c=some (.d (.bool t))) (h1:t=true→AW P m a Q st) (h2:t=false→AW P m b Q st):AW P m (.cond c a b) Q st:=⟨t,h,h1,h2⟩
end
theorem Jte{P:Program}{m:Nat}{Q:AExit→ASt→Prop}{st:ASt}(h:Q .normal st):AW P m .cut Q st:=.inl h
theorem Jtg{P:Program}{m:Nat}{Q:AExit→ASt→Prop}{st:ASt}(S2:ASt){r b:IC}(h1:∀ N:ASt→Prop,(∀ st',Wk m st' S2→N st')→AW P m r (AExit.then N Q) st) (h2:AW P m b Q S2):AW P m (.seq (.seq r .cut) b) Q st:=by
 show AW P m (.seq r .cut) (AExit.then (AW P m b Q) Q) st
 show AW P m r (AExit.then (AW P m .cut (AExit.then (AW P m b Q) Q)) (AExit.then (AW P m b Q) Q)) st
 refine Jtj r ?_ (h1 (fun st'=>Wk m st' S2) fun st' h=>h)
 intro e st' h
 cases e with
 | normal=>exact .inr ⟨S2,h,.inl h2⟩
 | exit i=>exact h
 | ret=>exact h
 | panic x=>exact h
theorem Has.run{P:Program}{n k:Nat}{rs:List RV}{ic:IC}(h:Has P n k rs ic){args:List AV}{H:List Blk}{Q:AOut→List Blk→Prop}(hk:args.length=k)
  (hb:∀ R:AExit→ASt→Prop,(∀ e st,Fin rs H.length Q e st→R e st)→AW P H.length ic R ⟨enum 0 args,H⟩):Jt51 P n args H Q:=h.calls hk (hb _ fun _ _ h=>h)
section
variable {Q:AExit→ASt→Prop} {next:ASt→Prop} {st:ASt} {id i:Nat} {x:AV}
theorem Jt1eh:AExit.then next Q .normal st↔next st:=Iff.rfl
theorem Jt1eg:AExit.then next Q (.exit i) st↔Q (.exit i) st:=Iff.rfl
theorem Jt1ej:AExit.then next Q .ret st↔Q .ret st:=Iff.rfl
theorem Jt1ei:AExit.then next Q (.panic x) st↔Q (.panic x) st:=Iff.rfl
theorem Jtl7:AExit.inBlock id Q .normal st↔Q .normal st:=Iff.rfl
theorem Jtl9:AExit.inBlock id Q .ret st↔Q .ret st:=Iff.rfl
theorem Jtl8:AExit.inBlock id Q (.panic x) st↔Q (.panic x) st:=Iff.rfl
theorem Jtl6:AExit.inBlock id Q (.exit i) st↔if i=id then Q .normal st else Q (.exit i) st:=Iff.rfl
end
theorem goS3_d{K:ASt→Prop}{st:ASt}{n b off:Nat}{cells:List AV}{v:Opd}{x:D}:goS3 K st n b off cells v (some (.d x))↔1=n∧off+n≤cells.length∧K ⟨unview st.env,st.H.set b (.mem (spl cells off [.d x]))⟩:=by
 cases v<;>simp [goS3,AV.erase,AV.cells,AV.leaf]
theorem Jtgv{K:ASt→Prop}{st:ASt}{n b off:Nat}{cells:List AV}{v:Opd}{x:List AV}:goS3 K st n b off cells v (some (.agg x))↔x.length=n∧off+n≤cells.length∧x.all AV.leaf=true∧K ⟨unview st.env,st.H.set b (.mem (spl cells off x))⟩:=by
 cases v<;>simp [goS3,AV.erase,AV.cells]
theorem Jth0{K:ASt→Prop}{st:ASt}{n b off:Nat}{cells:List AV}{i e:Nat}{rows:List (List D)}:goS3 K st n b off cells (.t i) (some (.own e rows))↔n=1∧off<cells.length∧K ⟨(i,.d (.sl rows))::unview st.env,st.H.set b (.mem (cells.set off (.own e rows)))⟩:=Iff.rfl
theorem Jtgz{K:ASt→Prop}{st:ASt}{n b off:Nat}{cells:List AV}{v:Opd}:goS3 K st n b off cells v (some .nils)↔1=n∧off+n≤cells.length∧K ⟨unview st.env,st.H.set b (.mem (spl cells off [.nils]))⟩:=by
 cases v<;>simp [goS3,AV.erase,AV.cells,AV.leaf]
theorem Jtgy{K:ASt→Prop}{st:ASt}{n b off:Nat}{cells:List AV}{v:Opd}:goS3 K st n b off cells v (some .nile)↔1=n∧off+n≤cells.length∧K ⟨unview st.env,st.H.set b (.mem (spl cells off [.nile]))⟩:=by
 cases v<;>simp [goS3,AV.erase,AV.cells,AV.leaf]
attribute [simp] Jto Jt4 Jt6 Jt3 Jt1dj Jt1di Jt1p Jt5c nvB goQ goQ1 goZ Jtl Jtk Jt150 AW_seq Jt7 Jtc AW_ret Jtb Jt9 Jt4j Jt4h Jt45 Jt44 Jt40 Jt42 Jt43 Jt4b
attribute [simp] Jt3f Jt35 goT1 goT2 goT3 goP awayL AV.notOwn Jt4v Jt1t Jt1j Jt1u Jt3e Jtu Jt1q Jt1x go1 go2 goR goS2 goS1 goS3_d Jtgv Jth0 Jtgz Jtgy goA goG goC
attribute [simp] Jth4 Jt7n dropOwn opV opB ev evr evs get put AV.erase AV.unview AV.cells AV.leaf unview kill qOk enum asIx bnds binD unD partV place Jtxq spl AV.toD toDs Jt1eh Jt1eg Jt1ej Jtl7 Jtl9 Jtl6 Jt1ei Jtl8 eqD List.replicate
section
variable {P:Program} {q:Bool} {dst:Option Nat} {K:ASt→Prop} {QP:AV→ASt→Prop} {st:ASt}
@[simp] theorem Jt2x{x:Opd}:AWio P q (.mov x) dst K QP st↔go1 K dst st (opV st (.mov x)):=Jt4v
@[simp] theorem Jt36{x y z:Opd}:AWio P q (.pick x y z) dst K QP st↔go1 K dst st (opV st (.pick x y z)):=Jt4v
@[simp] theorem Jt1v{z:List AV}{ps:List (Nat × Nat × Opd)}:AWio P q (.build z ps) dst K QP st↔go1 K dst st (opV st (.build z ps)):=Jt4v
@[simp] theorem Jt2e{n:Option Nat}{x:Opd}:AWio P q (.load n x) dst K QP st↔go1 K dst st (opV st (.load n x)):=Jt4v
@[simp] theorem Jt33{x:Opd}:AWio P q (.nilck x) dst K QP st↔go1 K dst st (opV st (.nilck x)):=Jt4v
@[simp] theorem Jt1s{op:BinOp}{x y:Opd}:AWio P q (.bin op x y) dst K QP st↔go1 K dst st (opV st (.bin op x y)):=Jt4v
@[simp] theorem Jt22{n:Bool}{ks:List LK}{x y:Opd}:AWio P q (.eqs n ks x y) dst K QP st↔go1 K dst st (opV st (.eqs n ks x y)):=Jt4v
@[simp] theorem Jt21{n:Bool}{x y:Opd}:AWio P q (.eqb n x y) dst K QP st↔go1 K dst st (opV st (.eqb n x y)):=Jt4v
@[simp] theorem Jt3i{op:UnOp}{x:Opd}:AWio P q (.un op x) dst K QP st↔go1 K dst st (opV st (.un op x)):=Jt4v
@[simp] theorem Jt20{k:IntKind}{x:Opd}:AWio P q (.conv k x) dst K QP st↔go1 K dst st (opV st (.conv k x)):=Jt4v
@[simp] theorem Jt38{x:Opd}:AWio P q (.runeS x) dst K QP st↔go1 K dst st (opV st (.runeS x)):=Jt4v
@[simp] theorem Jt39{x:Opd}:AWio P q (.runesS x) dst K QP st↔go1 K dst st (opV st (.runesS x)):=Jt4v
@[simp] theorem Jt1w{x:Opd}:AWio P q (.bytesS x) dst K QP st↔go1 K dst st (opV st (.bytesS x)):=Jt4v
@[simp] theorem Jt24{k:Nat}{x:Opd}:AWio P q (.faddr k x) dst K QP st↔go1 K dst st (opV st (.faddr k x)):=Jt4v
@[simp] theorem Jt25{k:Nat}{n:Option Nat}{x:Opd}:AWio P q (.fld k n x) dst K QP st↔go1 K dst st (opV st (.fld k n x)):=Jt4v
@[simp] theorem Jt26{k:Nat}{x y:Opd}:AWio P q (.iaddr k x y) dst K QP st↔go1 K dst st (opV st (.iaddr k x y)):=Jt4v
@[simp] theorem Jt27{n k:Nat}{x y:Opd}:AWio P q (.iaddrA n k x y) dst K QP st↔go1 K dst st (opV st (.iaddrA n k x y)):=Jt4v
@[simp] theorem Jt2a{a b:Nat}{n:Option Nat}{x y:Opd}:AWio P q (.ixA a b n x y) dst K QP st↔go1 K dst st (opV st (.ixA a b n x y)):=Jt4v
@[simp] theorem Jt2b{x y:Opd}:AWio P q (.ixS x y) dst K QP st↔go1 K dst st (opV st (.ixS x y)):=Jt4v
@[simp] theorem Jt3a{n:Nat}{x:Opd}{l h:Option Opd}:AWio P q (.slc n x l h) dst K QP st↔go1 K dst st (opV st (.slc n x l h)):=Jt4v
@[simp] theorem Jt3c{x:Opd}{l h:Option Opd}:AWio P q (.slcS x l h) dst K QP st↔go1 K dst st (opV st (.slcS x l h)):=Jt4v
@[simp] theorem Jt3b{x:Opd}:AWio P q (.slc0 x) dst K QP st↔go1 K dst st (opV st (.slc0 x)):=Jt4v
@[simp] theorem Jt23{x:Opd}{i:Nat}:AWio P q (.ext x i) dst K QP st↔go1 K dst st (opV st (.ext x i)):=Jt4v
@[simp] theorem Jt2c{x:Opd}:AWio P q (.len x) dst K QP st↔go1 K dst st (opV st (.len x)):=Jt4v
@[simp] theorem Jt2d{x:Opd}:AWio P q (.lenS x) dst K QP st↔go1 K dst st (opV st (.lenS x)):=Jt4v
@[simp] theorem Jt2m{t:Nat}{x:Opd}:AWio P q (.mkif t x) dst K QP st↔go1 K dst st (opV st (.mkif t x)):=Jt4v
@[simp] theorem Jt28{neg:Bool}{x:Opd}:AWio P q (.isnif neg x) dst K QP st↔go1 K dst st (opV st (.isnif neg x)):=Jt4v
@[simp] theorem Jt3h{t:Nat}{x:Opd}:AWio P q (.tas t x) dst K QP st↔go1 K dst st (opV st (.tas t x)):=Jt4v
@[simp] theorem Jt32{x y:Opd}:AWio P q (.mx x y) dst K QP st↔go1 K dst st (opV st (.mx x y)):=Jt4v
@[simp] theorem Jt2t{x y:Opd}:AWio P q (.mn x y) dst K QP st↔go1 K dst st (opV st (.mn x y)):=Jt4v
@[simp] theorem Jt2l{f:Fn}{x y:List Opd}:AWio P q (.mkfn f x y) dst K QP st↔go1 K dst st (opV st (.mkfn f x y)):=Jt4v
end
theorem FrA {rs : List RV} {Q : AOut → List Blk → Prop} {st : ASt} {x : AV} (h : rV st rs = some x := by exact rfl) (hc : x.erase.ren none1 = some x.erase := by exact rfl) (hq : Q (.ret x.erase) [] := by first | exact rfl | (simp [AV.erase, AV.unview]; done) | fail "no end") : Fin rs 0 Q .ret st := Jt57 x h hc hq
theorem FnA {rs : List RV} {Q : AOut → List Blk → Prop} {st : ASt} {x : AV} (h : rV st rs = some x := by exact rfl) (hc : x.erase.ren none1 = some x.erase := by exact rfl) (hq : Q (.ret x.erase) [] := by first | exact rfl | (simp [AV.erase, AV.unview]; done) | fail "no end") : Fin rs 0 Q .normal st := Jt54 x h hc hq
theorem Xz:(∀ (p:Prop) [Decidable p],(decide p=true)=p)∧(∀ (p:Prop) [Decidable p],(decide p=false)↔¬p)∧(∀ b:Bool,((!b)=true)=(b=false))∧(∀ b:Bool,((!b)=false)=(b=true))∧(∀ a b:Bool,((a&&b)=true)=(a=true∧b=true))∧(∀ a b:Bool,((a||b)=true)=(a=true∨b=true)):=
 ⟨fun _ _=>decide_eq_true_eq,fun _ _=>decide_eq_false_iff_not,Bool.not_eq_true',Bool.not_eq_false',Bool.and_eq_true,Bool.or_eq_true⟩
theorem Xy:(∀ (α:Type) [BEq α] [LawfulBEq α] (a b:α),(a==b)=true↔a=b)∧(∀ (α:Type) [BEq α] [LawfulBEq α] (a b:α),(a != b)=true↔a≠b)∧(∀ (α:Type) (a b:α),(a≠b)=¬a=b)∧(∀ (α:Type) [BEq α] [LawfulBEq α] (a b:α),(a==b)=false↔a≠b)∧(∀ (α:Type) [BEq α] [LawfulBEq α] (a b:α),(a != b)=false↔a=b):=
 ⟨fun _ _ _ _ _=>beq_iff_eq,fun _ _ _ _ _=>bne_iff_ne,fun _ _ _=>rfl,fun _ _ _ _ _=>beq_eq_false_iff_ne,fun _ _ _ _ _=>bne_eq_false_iff_eq⟩
theorem Xc{P:Program}{m:Nat}{Q:AExit→ASt→Prop}{st:ASt}{c:Opd}{a b:IC}{t:Bool}(h1:t=true→AW P m a Q st)(h2:t=false→AW P m b Q st)(h:evr st.env c=some (.d (.bool t)):=by rfl):AW P m (.cond c a b) Q st:=Jta t h h1 h2
theorem Xo{P:Program}{K:ASt→Prop}{QP:AV→ASt→Prop}{st:ASt}{io:AO}{dst:Option Nat}{t:Nat}{want q:Bool}{b:Bool}(h1:b=true→AWop P ⟨dst,io,some (t,want),q⟩ K QP st) (h2:b=false→AWop P ⟨dst,io,some (t,want),q⟩ K QP st) (h:get st.env t=some (.d (.bool b)):=by rfl):AWop P ⟨dst,io,some (t,want),q⟩ K QP st:=Jt4g b h h1 h2
theorem Xf{rs:List RV}{Q:AOut→List Blk→Prop}{st:ASt}{x:AV}{e:AExit}(h:rV st rs=some x:=by exact rfl)(hc:x.erase.ren none1=some x.erase:=by exact rfl)(he:e=.ret∨e=.normal:=by first|exact .inl rfl|exact .inr rfl)(hq:Q (.ret x.erase) []):Fin rs 0 Q e st:=by
 rcases he with rfl | rfl
 ·exact Jt57 x h hc hq
 ·exact Jt54 x h hc hq
abbrev EqI(a b:IC):Prop:=∀ P m Q st,AW P m a Q st↔AW P m b Q st
theorem eqi{a:IC}:EqI a a:=fun _ _ _ _=>Iff.rfl
end Go.AE
namespace Go.AE
theorem Has.of (kills:List (List Nat)) {P:Program} {n k:Nat} {rs:List RV} {ic:IC} (hm:P.follows .mixedOrders=true) (ok:okFn P n=true) (h1:((P.funcs[n]?).bind fun fn=>fn.body.bind fun c=>comp P fn.ntmps kills c)=some ic)
  (h2:((P.funcs[n]?).bind fun fn=>cRes P fn.results.toList)=some rs) (h3:((P.funcs[n]?).map fun fn=>decide (k≤fn.ntmps))=some true):Has P n k rs ic:=by
 refine ⟨hm,ok,?_⟩
 rw [Option.bind_eq_some_iff] at h1 h2
 obtain ⟨fn,hf,h1⟩:=h1
 obtain ⟨fn',hf',h2⟩:=h2
 rw [hf] at hf';injection hf' with hf';subst hf'
 rw [Option.bind_eq_some_iff] at h1
 obtain ⟨c,hc,h1⟩:=h1
 rw [hf] at h3
 exact ⟨fn,c,hf,hc,⟨kills,h1⟩,h2,by simpa using h3⟩
structure HasD (P:Program) (n k:Nat) (rs:List RV) (ic0 icr:IC) (t fc:Nat) (caps:List Nat) (icc:IC) (d1 d2:Nat):Prop where
 hm:P.follows .mixedOrders=true
 ok:okFn P n=true
 okc:okFn P fc=true
 fn:∃ (fn:Func) (c0 rest:Code) (id:Nat) (o1 o2:Oper),P.funcs[n]?=some fn∧fn.body=some (.seq c0 (.seq (.region id #[o1,o2] false) rest))∧(∃ kills,comp P fn.ntmps kills c0=some ic0)∧(∃ kills,comp P fn.ntmps kills rest=some icr)∧
  cRes P fn.results.toList=some rs∧k≤fn.ntmps∧t<fn.ntmps∧o1.op=.makeFunc (.func fc) #[] (caps.map Operand.tmp).toArray∧o1.dst=some t∧o1.guard=none∧
  o2.op=.defer { callee:=.value (.tmp t),args:=#[],argTypes:=#[]}∧o2.dst=none∧o2.guard=none
 cl:∃ (fn:Func) (rest:Code) (id:Nat) (o1 o2:Oper),P.funcs[fc]?=some fn∧fn.body=some (.seq (.region id #[o1,o2] false) rest)∧(∃ kills,comp P fn.ntmps kills rest=some icc)∧fn.results=#[]∧caps.length≤fn.ntmps∧
  d1<fn.ntmps∧d2<fn.ntmps∧o1.op=.call { callee:=.builtin .recover,args:=#[],argTypes:=#[]}∧o1.dst=some d1∧o1.guard=none∧o2.op=.assign (.tmp d1)∧o2.dst=some d2∧o2.guard=none
def panV:AExit→AV
 | .panic x=>x.erase
 | _=>.nilif
def FinD(P:Program)(rs:List RV)(m:Nat)(icc:IC)(caps:List Nat)(d1 d2:Nat)(cs:List AV)(Q:AOut→List Blk→Prop):AExit→ASt→Prop
 | .exit _,_=>False
 | e,st=>(∀ (j c:Nat),caps[j]?=some c→get st.env c=cs[j]?)∧
   AW P st.H.length icc (fun e1 st1=>(e1=.normal∨e1=.ret)∧∃ y,rV ⟨caps.zip cs,st1.H⟩ rs=some y∧∃ x' H',Wk m ⟨[(0,y)],st1.H⟩ ⟨[(0,x')],H'⟩∧Q (.ret x') H')
    ⟨(d2,panV e)::(d1,panV e)::enum 0 cs,st.H⟩
section
variable {P:Program} {N:Nat} {st:ASt} {g:Gh} {a:Act} {w:World}
theorem Sim.other(hs:Sim N st g a w){N':Nat}{a':Act}{env':List (Nat × AV)} (hz:N'≤a'.tmps.size) (he:∀ t x,get env' t=some x→x.erase=x∧Rel g.F g.φ w x (a'.tmps.getD t undef)) :
  Sim N' ⟨env',st.H⟩ g a' w∧∀ r,Mine ⟨env',st.H⟩ g a' w r→Mine st g a w r:=by
 have hAP:∀ p e rows,AP ⟨env',st.H⟩ p=some (.own e rows)→∃ b j,p=.cell b j∧AP st p=some (.own e rows):=by
  intro p e rows h
  cases p with
  | tmp t=>
   have:=(he t _ h).1
   simp [AV.erase] at this
  | cell b j=>exact ⟨b,j,rfl,h⟩
 have hO:∀ p r,Owner ⟨env',st.H⟩ g.φ a' w p r→Owner st g.φ a w p r:=by
  rintro p r ⟨e,rows,v,h1,h2,h3⟩
  obtain ⟨b,j,rfl,h⟩:=hAP p e rows h1
  exact ⟨e,rows,v,h,h2,h3⟩
 refine ⟨{ size:=hz,env:=?_,inj:=hs.inj,lt:=hs.lt,dom:=hs.dom,mem:=hs.mem,iter:=hs.iter,glob:=hs.glob,own:=?_,excl:=?_,apart:=?_,view:=?_},?_⟩
 ·intro t x h
  obtain ⟨h1,h2⟩:=he t x h
  rw [h1];exact h2
 ·intro p e rows v h1 h2
  obtain ⟨b,j,rfl,h⟩:=hAP p e rows h1
  exact hs.own _ e rows v h h2
 ·exact fun p p' r h h'=>hs.excl p p' r (hO p r h) (hO p' r h')
 ·exact fun p r b h=>hs.apart p r b (hO p r h)
 ·intro t org e rows h
  have:=(he t _ h).1
  simp [AV.erase] at this
 ·rintro r (⟨b,hb⟩ | ⟨p,hp⟩)
  ·exact .inl ⟨b,hb⟩
  ·exact .inr ⟨p,hO p r hp⟩
def Jt7s:FrameMode→FrameMode
 | .panicking ({ v,recovered:=false,goexit:=false}::older)=>.panicking ({ v,recovered:=true}::older)
 | m=>m
theorem Jtca(hm:P.follows .mixedOrders=true){fc:Nat}{caps:List Nat}{icc:IC}{d1 d2:Nat}
    (cl:∃ (fn:Func) (rest:Code) (id:Nat) (o1 o2:Oper),P.funcs[fc]?=some fn∧fn.body=some (.seq (.region id #[o1,o2] false) rest)∧(∃ kills,comp P fn.ntmps kills rest=some icc)∧fn.results=#[]∧caps.length≤fn.ntmps∧
      d1<fn.ntmps∧d2<fn.ntmps∧o1.op=.call { callee:=.builtin .recover,args:=#[],argTypes:=#[]}∧o1.dst=some d1∧o1.guard=none∧o2.op=.assign (.tmp d1)∧o2.dst=some d2∧o2.guard=none)
    (hs:Sim N st g a w) {cs:List AV} {cv:List Value} (hcl:cs.length=caps.length) (hcvl:cv.length=caps.length) (hcr:∀ (j:Nat) (x:AV) (u:Value),cs[j]?=some x→cv[j]?=some u→Rel g.F g.φ w x u) (hce:∀ x∈cs,x.erase=x)
    {u:FrameMode} {x:AV} {v:Value} (hx:x.erase=x) (hxv:Rel g.F g.φ w x v) (hu:(u=.returning∧v=.nilIface)∨u=.panicking [{ v,recovered:=false}])
    {K:ASt→Prop} (h:AW P st.H.length icc (fun e1 st1=>(e1=.normal∨e1=.ret)∧K st1) ⟨(d2,x)::(d1,x)::enum 0 cs,st.H⟩) :
    CallsD P fc cv.toArray u w fun e u' w'=>e=.returned (.tuple #[])∧u'=Jt7s u∧
      ∃ (O:Nat→Prop) (N1:Nat) (st1:ASt) (g1:Gh) (a1:Act),K st1∧Here N1 O st.H.length g w [] st1 g1 a1 w'∧∀ r,O r→Mine st g a w r:=by
  obtain ⟨fn,rest,id,o1,o2,f1,f2,⟨kills,f3⟩,f4,f5,f6,f7,p1,p2,p3,p4,p5,p6⟩:=cl
  have main:∀ R:Ending→FrameMode→World→Prop,(∀ w',(∃ (O:Nat→Prop) (N1:Nat) (st1:ASt) (g1:Gh) (a1:Act),K st1∧Here N1 O st.H.length g w [] st1 g1 a1 w'∧∀ r,O r→Mine st g a w r)→R (.returned (.tuple #[])) (Jt7s u) w')→
      CallsD P fc cv.toArray u w R:=by
   intro R hR
   refine callsD_of_wpS f1 f2 fun c₀ cs0 hmode=>?_
   refine wpS_seq (wpS_region ?_)
   have hsz:cv.toArray.size=caps.length:=by simpa using hcvl
   generalize hA:({ tmps:=cv.toArray++Array.replicate (fn.ntmps-cv.toArray.size) undef,defers:=[]}:Act)=A
   have hAs:A.tmps.size=fn.ntmps:=by rw [←hA];simp;omega
   have hAd:A.defers=[]:=by rw [←hA]
   have hAg:∀ j u,cv[j]?=some u→A.tmps.getD j undef=u:=by
     intro j u hj
     have hjl:=(lgS.1 hj).1
     rw [←hA]
     simp only [Array.getD_eq_getD_getElem?]
     rw [Array.getElem?_append_left (by simpa using hjl)]
     simp [hj]
   have hone:((#[o1,o2]:Array Oper)[0]?)=some o1:=rfl
   have htwo:((#[o1,o2]:Array Oper)[1]?)=some o2:=rfl
   have hr:List.range (#[o1,o2]:Array Oper).size=[0,1]:=rfl
   rw [hr]
   have fin:∀ (c1:Frame),c1={ c₀ with mode:=Jt7s u}→Exit.thenS (rest.wpS P (bodyPostS P fn c₀ cs0 R)) (bodyPostS P fn c₀ cs0 R) .normal ((A.put (some d1) v).put (some d2) ((A.put (some d1) v).eval (.tmp d1))) (c1::cs0) w:=by
     intro c1 hc1
     show rest.wpS P _ _ _ _
     refine wpS_of_wp ?_
     have hev:(A.put (some d1) v).eval (.tmp d1)=v:=by
       simp only [Act.eval,Act.put,Array.getD_eq_getD_getElem?]
       rw [Array.getElem?_setIfInBounds_self_of_lt (by omega)];rfl
     rw [hev]
     generalize hB:(A.put (some d1) v).put (some d2) v=B
     have hBs:B.tmps.size=fn.ntmps:=by rw [←hB];simp [Act.put,hAs]
     have hBd:B.defers=[]:=by rw [←hB];simp [Act.put,hAd]
     have hBg:∀ j,B.tmps.getD j undef=if j=d2 then v else if j=d1 then v else A.tmps.getD j undef:=by
       intro j
       rw [←hB]
       simp only [Act.put,Array.getD_eq_getD_getElem?,Array.getElem?_setIfInBounds,Array.size_setIfInBounds,hAs]
       by_cases h2:j=d2
       · subst h2;simp [f7]
       · rw [if_neg (fun h=>h2 h.symm),if_neg h2]
         by_cases h1:j=d1
         · subst h1;simp [f6]
         · rw [if_neg (fun h=>h1 h.symm),if_neg h1]
     obtain ⟨s1,s2⟩:=hs.other (N':=fn.ntmps) (a':=B) (env':=(d2,x)::(d1,x)::enum 0 cs) (by omega) (by
       intro t y ht
       simp only [get] at ht
       rw [hBg]
       split at ht
       · rename_i he;subst he;injection ht with ht;subst ht;rw [if_pos rfl];exact ⟨hx,hxv⟩
       · rename_i hn2
         rw [if_neg (fun h=>hn2 h.symm)]
         split at ht
         · rename_i he;subst he;injection ht with ht;subst ht;rw [if_pos rfl];exact ⟨hx,hxv⟩
         · rename_i hn1
           rw [if_neg (fun h=>hn1 h.symm)]
           rw [Jtgq] at ht
           have htl:t<cv.length:=by rw [hcvl,←hcl];exact (lgS.1 ht).1
           have hc:=lgE htl
           rw [hAg t _ hc]
           exact ⟨hce y (lmG ht),hcr t y _ ht hc⟩)
     have here:Here fn.ntmps (Mine ⟨(d2,x)::(d1,x)::enum 0 cs,st.H⟩ g B w) st.H.length g w [] ⟨(d2,x)::(d1,x)::enum 0 cs,st.H⟩ g B w:=
       ⟨s1,Tr.refl _ _ _,fun r hr=>.inl hr,fun _ _ _ h=>h,Nat.le_refl _,hBd⟩
     refine wp_mono (Jtm (kills:=kills) hm rest f3 here h (by intro i st h;rcases h.1 with h | h<;>cases h)) ?_
     have key:∀ a' w',(∃ st' g',K st'∧Here fn.ntmps (Mine ⟨(d2,x)::(d1,x)::enum 0 cs,st.H⟩ g B w) st.H.length g w [] st' g' a' w')→a'.defers=[]∧∃ u',c1::cs0={ c₀ with mode:=u'}::cs0∧∃ v',(results fn a'.tmps).run P w'=.ok v' w'∧
         R (.returned v') u' w':=by
       rintro a' w' ⟨st',g',hK,hh⟩
       refine ⟨hh.df,Jt7s u,by rw [hc1],.tuple #[],?_,hR _ ⟨_,_,st',g',a',hK,hh,s2⟩⟩
       simp [results,f4]
     intro e a' w' hp
     cases e with
     | normal=>obtain ⟨st',g',⟨_,hK⟩,hh⟩:=hp;exact key a' w' ⟨st',g',hK,hh⟩
     | ret=>obtain ⟨st',g',⟨_,hK⟩,hh⟩:=hp;exact key a' w' ⟨st',g',hK,hh⟩
     | panic chain=>obtain ⟨x',v',st',g',_,⟨h,_⟩,_⟩:=hp;rcases h with h | h<;>cases h
     | exit i=>obtain ⟨st',g',⟨h,_⟩,_⟩:=hp;rcases h with h | h<;>cases h
     | goto l=>exact hp.elim
     | outgrown=>exact hp.elim
   have hw1:Region.wanted o1 (yielded #[o1,o2] A.tmps)=true:=by unfold Region.wanted;rw [p3]
   have hw2:∀ B:Act,Region.wanted o2 (yielded #[o1,o2] B.tmps)=true:=fun B=>by unfold Region.wanted;rw [p6]
   have hex1:(execOp A.eval o1).run P w=.ok .recover w:=by unfold execOp;simp [p1,resolve,invoke,builtin]
   have hex2:∀ B:Act,(execOp B.eval o2).run P w=.ok (.value (B.eval (.tmp d1))) w:=fun B=>by unfold execOp;simp [p4]
   simp only [wpOpsS,hone,htwo,hw1,hw2,if_true,hex1,p2,p5]
   rcases hu with ⟨hu,hv⟩ | hu
   · have hrec:recoverD (c₀::cs0)=none:=by simp [recoverD,hmode,hu]
     rw [hrec]
     simp only [hex2,Oper.upon,p5]
     have:=fin c₀ (by subst hu;simp only [Jt7s];cases c₀;simp_all)
     rw [hv] at this
     exact this
   · have hrec:recoverD (c₀::cs0)=some (v,{ c₀ with mode:=.panicking [{ v,recovered:=true}]}::cs0):=by simp [recoverD,hmode,hu]
     rw [hrec]
     simp only [hex2,Oper.upon,p5]
     exact fin _ (by subst hu;rfl)
  exact main _ fun w' h=>⟨rfl,rfl,h⟩
theorem Here.after{O:Nat→Prop}{m:Nat}{g0:Gh}{w0:World}{D0:List Deferred}(hh:Here N O m g0 w0 D0 st g a w){O1:Nat→Prop}{N1:Nat}{st1:ASt}{g1:Gh}{a1:Act}{w':World}(hc:Here N1 O1 st.H.length g w [] st1 g1 a1 w')
  (hO:∀ r,O1 r→Mine st g a w r) {env':List (Nat × AV)} (he:∀ t x,get env' t=some x→x.erase=x∧get st.env t=some x):Here N O m g0 w0 D0 ⟨env',st1.H⟩ g1 a w':=by
 obtain ⟨s1,s2⟩:=hc.sim.other (N':=N) (a':=a) (env':=env') hh.sim.size (fun t x ht=>by
  obtain ⟨h1,h2⟩:=he t x ht
  have:=hh.sim.env t x h2
  rw [h1] at this
  exact ⟨h1,this.stab hc.tr.stab fun b r hb=>hc.keep b r (hh.sim.lt b r hb).2.2 hb⟩)
 refine ⟨s1,hh.tr.trans hc.tr (fun r hr=>hh.mine r (hO r hr)),fun r hr=>?_,fun b r hb hr=>hc.keep b r (Nat.lt_of_lt_of_le hb hh.ge) (hh.keep b r hb hr),Nat.le_trans hh.ge hc.ge,hh.df⟩
 rcases hc.mine r (s2 r hr) with h | h
 ·exact hh.mine r (hO r h)
 ·exact .inr (Nat.le_trans hh.tr.size h)
theorem Here.trans{O:Nat→Prop}{m:Nat}{g0:Gh}{w0:World}{D0 D1:List Deferred}(hh:Here N O m g0 w0 D0 st g a w){N2:Nat}{st1:ASt}{g1:Gh}{a1:Act}{w1:World}(h:Here N2 (Mine st g a w) st.H.length g w D1 st1 g1 a1 w1):Here N2 O m g0 w0 D1 st1 g1 a1 w1:=
 ⟨h.sim,hh.tr.trans h.tr (fun r hr=>hh.mine r hr),fun r hr=>by
  rcases h.mine r hr with h1 | h1
  ·exact hh.mine r h1
  ·exact .inr (Nat.le_trans hh.tr.size h1),fun b r hb hr=>h.keep b r (Nat.lt_of_lt_of_le hb hh.ge) (hh.keep b r hb hr),Nat.le_trans hh.ge h.ge,h.df⟩
theorem Jtgu:∀ {cs:List Nat} {xs:List AV} {t:Nat} {x:AV},get (cs.zip xs) t=some x→∃ j:Nat,cs[j]?=some t∧xs[j]?=some x:=by
 intro cs
 induction cs with
 | nil=>intro xs t x h;simp [get] at h
 | cons c cs ih=>
  intro xs t x h
  cases xs with
  | nil=>simp [get] at h
  | cons y xs=>
   simp only [List.zip_cons_cons,get] at h
   split at h
   ·rename_i hc;subst hc;injection h with h;subst h;exact ⟨0,rfl,rfl⟩
   ·obtain ⟨j,h1,h2⟩:=ih h;exact ⟨j+1,by simpa using h1,by simpa using h2⟩
theorem HasD.calls{n k:Nat}{rs:List RV}{ic0 icr:IC}{t fc:Nat}{caps:List Nat}{icc:IC}{d1 d2:Nat}(h:HasD P n k rs ic0 icr t fc caps icc d1 d2){args:List AV}{H:List Blk}{Q:AOut→List Blk→Prop}(hk:args.length=k)
  (hb:AW P H.length ic0 (fun e st=>e=.normal∧∃ cs:List AV,cs.length=caps.length∧(∀ (j c:Nat),caps[j]?=some c→get st.env c=cs[j]?)∧(∀ x∈cs,x.erase=x)∧
   AW P st.H.length icr (FinD P rs H.length icc caps d1 d2 cs Q) (put (some t) (.fn (.func fc) [] cs) st)) ⟨enum 0 args,H⟩):Jt51 P n args H Q:=by
 obtain ⟨hm,_,hokc,⟨fn,c0,rest,id,o1,o2,f1,f2,⟨kills0,f3⟩,⟨kills1,f4⟩,f5,f6,f7,p1,p2,p3,p4,p5,p6⟩,cl⟩:=h
 intro g vs w hsz hsim
 refine calls_of_wp_defers f1 f2 ?_
 suffices main:∀ RR:Ending→World→Prop,(∀ e w',(∃ o H' g' v,Q o H'∧e=AOut.ending v o∧Sim 1 ⟨[(0,o.val)],H'⟩ g' ⟨#[v],[]⟩ w'∧Tr (Mine ⟨enum 0 args,H⟩ g ⟨vs,[]⟩ w) g w g' w'∧
    (∀ b r,b<H.length→g.φ b=some r→g'.φ b=some r)∧H.length≤H'.length∧(∀ r,Mine ⟨[(0,o.val)],H'⟩ g' ⟨#[v],[]⟩ w' r→Mine ⟨enum 0 args,H⟩ g ⟨vs,[]⟩ w r∨w.heap.size≤r))→RR e w')→(Code.seq c0 (.seq (.region id #[o1,o2] false) rest)).wp P (bodyPostD P fn RR) { tmps:=vs++Array.replicate (fn.ntmps-vs.size) undef,defers:=[]} w from main _ fun e w' h=>h
 intro RR hRR
 have hfr:=hsim.frame (N':=fn.ntmps) (a':={ tmps:=vs++Array.replicate (fn.ntmps-vs.size) undef,defers:=[]}) (fun t x hx=>by
  rw [Jtgq] at hx
  have:t<vs.size:=by rw [hsz];exact (lgS.1 hx).1
  rw [Array.getD_eq_getD_getElem?,Array.getD_eq_getD_getElem?,Array.getElem?_append_left this]) (by simp;omega)
 have here:Here fn.ntmps (Mine ⟨enum 0 args,H⟩ g ⟨vs,[]⟩ w) H.length g w [] ⟨enum 0 args,H⟩ g { tmps:=vs++Array.replicate (fn.ntmps-vs.size) undef,defers:=[]} w:=
  ⟨hfr.1,Tr.refl _ _ _,fun r hr=>.inl (hfr.2 r hr),fun _ _ _ h=>h,Nat.le_refl _,rfl⟩
 refine wp_seq (wp_mono (Jtm (kills:=kills0) hm c0 f3 here hb (by intro i st h;cases h.1)) ?_)
 intro e a1 w1 hp
 cases e with
 | exit i=>obtain ⟨st1,g1,⟨h,_⟩,_⟩:=hp;cases h
 | ret=>obtain ⟨st1,g1,⟨h,_⟩,_⟩:=hp;cases h
 | panic c=>obtain ⟨x,v,st1,g1,_,⟨h,_⟩,_⟩:=hp;cases h
 | goto l=>exact hp.elim
 | outgrown=>exact hp.elim
 | normal=>
 obtain ⟨st1,g1,⟨_,cs,k1,k2,k3,hb1⟩,hh1⟩:=hp
 refine wp_seq (wp_region ?_)
 have hcv:(caps.map fun c=>a1.tmps.getD c undef).length=cs.length:=by simp [k1]
 have hrel:∀ (j:Nat) (x:AV) (u:Value),cs[j]?=some x→(caps.map fun c=>a1.tmps.getD c undef)[j]?=some u→Rel g1.F g1.φ w1 x u:=by
  intro j x u hx hu
  rw [lgM,omS] at hu
  obtain ⟨c,hc,rfl⟩:=hu
  have:=hh1.sim.env c x ((k2 j c hc).trans hx)
  rw [k3 x (lmG hx)] at this
  exact this
 have hp:=hh1.sim.put (P:=P) (dst:=some t) (fun d hd=>by injection hd with hd;subst hd;exact f7) (x:=.fn (.func fc) [] cs) (v:=.func (.func fc) #[] (caps.map fun c=>a1.tmps.getD c undef).toArray)
  (.fn _ _ _ [] _ rfl (fun j x u h=>by simp at h) hcv hrel) (fun org e rows h=>by cases h) (fun e rows h=>by cases h)
 have hex1:(execOp a1.eval o1).run P w1=.ok (.value (.func (.func fc) #[] (caps.map fun c=>a1.tmps.getD c undef).toArray)) w1:=by
  unfold execOp
  have:((caps.map Operand.tmp).toArray.map a1.eval)=(caps.map fun c=>a1.tmps.getD c undef).toArray:=by simp [Act.eval,Function.comp_def]
  simp [p1,this,Instr.makeFunc]
 have hw1:Region.wanted o1 (yielded #[o1,o2] a1.tmps)=true:=by unfold Region.wanted;rw [p3]
 have hr2:List.range (#[o1,o2]:Array Oper).size=[0,1]:=rfl
 have hone:((#[o1,o2]:Array Oper)[0]?)=some o1:=rfl
 have htwo:((#[o1,o2]:Array Oper)[1]?)=some o2:=rfl
 rw [hr2]
 generalize hB:a1.put (some t) (.func (.func fc) #[] (caps.map fun c=>a1.tmps.getD c undef).toArray)=B at hp
 have hBt:B.eval (.tmp t)=.func (.func fc) #[] (caps.map fun c=>a1.tmps.getD c undef).toArray:=by
  have:t<a1.tmps.size:=Nat.lt_of_lt_of_le f7 hh1.sim.size
  rw [←hB];simp [Act.eval,Act.put,Array.getD_eq_getD_getElem?,this]
 have hw2:Region.wanted o2 (yielded #[o1,o2] B.tmps)=true:=by unfold Region.wanted;rw [p6]
 have hex2:(execOp B.eval o2).run P w1=.ok (.defer { target:=.fn (.func fc) (caps.map fun c=>a1.tmps.getD c undef).toArray,args:=#[]}) w1:=by
  unfold execOp
  simp [p4,resolve,hBt,Deferred.ofValue]
 generalize hd0:({ target:=.fn (.func fc) (caps.map fun c=>a1.tmps.getD c undef).toArray,args:=#[]}:Deferred)=dd at hex2
 have hBd:B.defers=[]:=by rw [←hB];exact (Jty1 _ _ _).trans hh1.df
 have hstep1:Here fn.ntmps (Mine ⟨enum 0 args,H⟩ g ⟨vs,[]⟩ w) H.length g w [] (Go.AE.put (some t) (.fn (.func fc) [] cs) st1) g1 B w1:=by
  refine hh1.step hp.1 (Step.same (fun r hr=>hp.2 r hr) (put_H _ _ _) ?_)
  rw [hBd,hh1.df]
 generalize hC:({ B with defers:=dd::B.defers}:Act).put o2.dst undef=C
 have hCt:C.tmps=B.tmps:=by rw [←hC,p5];rfl
 have hCd:C.defers=[dd]:=by rw [←hC,p5];show dd::B.defers=[dd];rw [hBd]
 have hstep2:Here fn.ntmps (Mine ⟨enum 0 args,H⟩ g ⟨vs,[]⟩ w) H.length g w [dd] (Go.AE.put (some t) (.fn (.func fc) [] cs) st1) g1 C w1:=by
  have hs:=hstep1.sim.frame (N':=fn.ntmps) (a':=C) (fun t x _=>by rw [hCt]) (by rw [hCt];exact hstep1.sim.size)
  exact ⟨hs.1,hstep1.tr,fun r hr=>hstep1.mine r (hs.2 r hr),hstep1.keep,hstep1.ge,hCd⟩
 generalize hcvg:(caps.map fun c=>a1.tmps.getD c undef)=cv at *
 generalize hsD:Go.AE.put (some t) (.fn (.func fc) [] cs) st1=stD at *
 have here2:Here fn.ntmps (Mine stD g1 C w1) stD.H.length g1 w1 [dd] stD g1 C w1:=⟨hstep2.sim,Tr.refl _ _ _,fun r hr=>.inl hr,fun _ _ _ h=>h,Nat.le_refl _,hCd⟩
 have hDH:stD.H=st1.H:=by rw [←hsD];exact put_H _ _ _
 rw [wpOps_cons];unfold wpOp;simp only [hone,hw1,if_true]
 refine .inl (Jt1lb hex1 ?_)
 rw [p2,hB,wpOps_cons];unfold wpOp;simp only [htwo,hw2,if_true]
 refine .inl ?_
 unfold Oper.wp
 rw [hex2]
 show Exit.then (rest.wp P (bodyPostD P fn RR)) (bodyPostD P fn RR) .normal (({ B with defers:=dd::B.defers}:Act).put o2.dst undef) w1
 rw [hC]
 show rest.wp P (bodyPostD P fn RR) C w1
 rw [←hDH] at hb1
 refine wp_mono (Jtm (kills:=kills1) hm rest f4 here2 hb1 fun i st h=>h) ?_
 have hinv:∀ w',(invoke (.fn (.func fc) cv.toArray) #[]).run P w'=.ok (.enter fc cv.toArray) w':=by
  intro w'
  have:=Jt178 (P:=P) (w:=w') (f:=fc) (args:=#[]++cv.toArray) hokc
  simpa [invoke] using this
 have key:∀ (st:ASt) (g':Gh) (a':Act) (w':World) (x:AV) (u:FrameMode) (v:Value),Here fn.ntmps (Mine stD g1 C w1) stD.H.length g1 w1 [dd] st g' a' w'→x.erase=x→Rel g'.F g'.φ w' x v→
   ((u=.returning∧v=.nilIface)∨u=.panicking [{ v,recovered:=false}])→(∀ (j c:Nat),caps[j]?=some c→get st.env c=cs[j]?)→
   AW P st.H.length icc (fun e1 st1=>(e1=.normal∨e1=.ret)∧∃ y,rV ⟨caps.zip cs,st1.H⟩ rs=some y∧∃ x' H',Wk H.length ⟨[(0,y)],st1.H⟩ ⟨[(0,x')],H'⟩∧Q (.ret x') H') ⟨(d2,x)::(d1,x)::enum 0 cs,st.H⟩→
   Leaves P fn a'.tmps RR a'.defers u w':=by
  intro st g' a' w' x u v hh hx hxv hu hcs haw
  rw [hh.df,←hd0]
  have hcr:∀ (j:Nat) (x:AV) (u:Value),cs[j]?=some x→cv[j]?=some u→Rel g'.F g'.φ w' x u:=by
   intro j y u hy hu
   exact (hrel j y u hy hu).stab hh.tr.stab fun b r hb=>hh.keep b r (hstep2.sim.lt b r hb).2.2 hb
  refine leaves_cons (f:=fc) (args:=cv.toArray) (by rcases hu with ⟨hu,_⟩ | hu<;>rw [hu]<;>simp) (hinv w') ?_
  refine (Jtca hm cl hh.sim k1 (by rw [hcv,k1]) hcr k3 hx hxv hu haw).mono ?_
  rintro e u' w'' ⟨rfl,rfl,O1,N1,st2,g2,a2,⟨y,hy,x',H',hwk,hQ⟩,hc,hO⟩
  have hset:settle (Jt7s u)=.returning:=by
   rcases hu with ⟨hu,_⟩ | hu<;>rw [hu]<;>rfl
  show Leaves P fn a'.tmps RR [] (settle (Jt7s u)) w''
  rw [hset]
  have hall:=(hstep2.trans hh).after hc hO (env':=caps.zip cs) (fun t x ht=>by
   obtain ⟨j,h1,h2⟩:=Jtgu ht
   exact ⟨k3 x (lmG h2),(hcs j t h1).trans h2⟩)
  obtain ⟨v2,h1,h2,h3,h4⟩:=Jt160 hall.sim (x:=y) (by rw [←rV_eq f5];exact hy)
  obtain ⟨s1,s2⟩:=hall.sim.res h2 h3 h4
  obtain ⟨m1,m2,m3,m4⟩:=s1.weak hwk
  refine ⟨v2,h1,hRR _ _ ⟨.ret x',H',_,v2,hQ,rfl,m1,hall.tr.trans (m2.mono s2) hall.mine,fun b r hb hr=>m4 b r hb (hall.keep b r hb hr),hwk.ge,fun r hr=>hall.mine r (s2 r (m3 r hr))⟩⟩
 intro e a2 w2 hp
 cases e with
 | normal=>obtain ⟨st,g',⟨h1,h2⟩,hh⟩:=hp;exact key st g' a2 w2 .nilif .returning .nilIface hh rfl .nilif (.inl ⟨rfl,rfl⟩) h1 h2
 | ret=>obtain ⟨st,g',⟨h1,h2⟩,hh⟩:=hp;exact key st g' a2 w2 .nilif .returning .nilIface hh rfl .nilif (.inl ⟨rfl,rfl⟩) h1 h2
 | panic chain=>
  obtain ⟨x,v,st,g',rfl,⟨h1,h2⟩,hh,hr⟩:=hp
  exact key st g' a2 w2 x.erase (.panicking [{ v,recovered:=false}]) v hh (Jtf7 x) hr (.inr rfl) h1 h2
 | exit id=>obtain ⟨st,g',h1,_⟩:=hp;exact h1.elim
 | goto l=>exact hp.elim
 | outgrown=>exact hp.elim
end
def tmpsOf:List Operand→Option (List Nat)
 | []=>some []
 | .tmp t::r=>(tmpsOf r).map (t::·)
 | _::_=>none
theorem Jt1el:∀ {os:List Operand} {ts:List Nat},tmpsOf os=some ts→os=ts.map Operand.tmp:=by
 intro os
 induction os with
 | nil=>intro ts h;simp [tmpsOf] at h;subst h;rfl
 | cons o os ih=>
  intro ts h
  cases o<;>simp only [tmpsOf] at h<;>first | (cases h;done) | skip
  rw [omS] at h
  obtain ⟨us,hu,rfl⟩:=h
  rw [ih hu];rfl
def dOps(N:Nat)(o1 o2:Oper):Option (Nat × Nat × List Nat):=
 match o1,o2 with
 | ⟨some t,.makeFunc (.func fc) ⟨[]⟩ caps,_,_,_,none⟩,⟨none,.defer ⟨.value (.tmp t'),⟨[]⟩,⟨[]⟩⟩,_,_,_,none⟩=>if t=t'∧t<N then (tmpsOf caps.toList).map fun cs=>(t,fc,cs) else none
 | _,_=>none
theorem Jtcz{N:Nat}{o1 o2:Oper}{t fc:Nat}{caps:List Nat}(h:dOps N o1 o2=some (t,fc,caps)):t<N∧o1.op=.makeFunc (.func fc) #[] (caps.map Operand.tmp).toArray∧o1.dst=some t∧o1.guard=none∧
  o2.op=.defer { callee:=.value (.tmp t),args:=#[],argTypes:=#[]}∧o2.dst=none∧o2.guard=none:=by
 unfold dOps at h
 split at h
 ·split at h
  ·rename_i hc
   obtain ⟨rfl,ht⟩:=hc
   rw [omS] at h
   obtain ⟨cs,hcs,h⟩:=h
   injection h with h1 h2;injection h2 with h2 h3;subst h1;subst h2;subst h3
   refine ⟨ht,?_,rfl,rfl,rfl,rfl,rfl⟩
   have:=Jt1el hcs
   rw [←this]
  ·cases h
 ·cases h
def rOps(N:Nat)(o1 o2:Oper):Option (Nat × Nat):=
 match o1,o2 with
 | ⟨some d1,.call ⟨.builtin .recover,⟨[]⟩,⟨[]⟩⟩,_,_,_,none⟩,⟨some d2,.assign (.tmp d),_,_,_,none⟩=>if d1=d∧d1<N∧d2<N then some (d1,d2) else none
 | _,_=>none
theorem Jty3{N:Nat}{o1 o2:Oper}{d1 d2:Nat}(h:rOps N o1 o2=some (d1,d2)):d1<N∧d2<N∧o1.op=.call { callee:=.builtin .recover,args:=#[],argTypes:=#[]}∧o1.dst=some d1∧o1.guard=none∧o2.op=.assign (.tmp d1)∧o2.dst=some d2∧o2.guard=none:=by
 unfold rOps at h
 split at h
 ·split at h
  ·rename_i hc
   obtain ⟨rfl,h1,h2⟩:=hc
   injection h with h;injection h with e1 e2;subst e1;subst e2
   exact ⟨h1,h2,rfl,rfl,rfl,rfl,rfl,rfl⟩
  ·cases h
 ·cases h
def dCode(P:Program)(N:Nat)(kills:List (List Nat)):Code→Option (IC × IC × Nat × Nat × List Nat)
 | .seq c0 (.seq (.region _ ⟨[o1,o2]⟩ false) rest)=>match dOps N o1 o2,comp P N kills c0,comp P N kills rest with
  | some (t,fc,caps),some x,some y=>some (x,y,t,fc,caps)
  | _,_,_=>none
 | _=>none
def rCode(P:Program)(N:Nat)(kills:List (List Nat)):Code→Option (IC × Nat × Nat)
 | .seq (.region _ ⟨[o1,o2]⟩ false) rest=>match rOps N o1 o2,comp P N kills rest with
  | some (d1,d2),some x=>some (x,d1,d2)
  | _,_=>none
 | _=>none
theorem HasD.of (kills killsc:List (List Nat)) {P:Program} {n k:Nat} {rs:List RV} {ic0 icr:IC} {t fc:Nat} {caps:List Nat} {icc:IC} {d1 d2:Nat} (hm:P.follows .mixedOrders=true) (ok:okFn P n=true) (okc:okFn P fc=true)
  (h1:((P.funcs[n]?).bind fun fn=>fn.body.bind fun c=>dCode P fn.ntmps kills c)=some (ic0,icr,t,fc,caps)) (h2:((P.funcs[n]?).bind fun fn=>cRes P fn.results.toList)=some rs) (h3:((P.funcs[n]?).map fun fn=>decide (k≤fn.ntmps))=some true)
  (h4:((P.funcs[fc]?).bind fun fn=>fn.body.bind fun c=>rCode P fn.ntmps killsc c)=some (icc,d1,d2)) (h5:((P.funcs[fc]?).map fun fn=>fn.results.isEmpty&&decide (caps.length≤fn.ntmps))=some true):HasD P n k rs ic0 icr t fc caps icc d1 d2:=by
 refine ⟨hm,ok,okc,?_,?_⟩
 ·rw [Option.bind_eq_some_iff] at h1 h2
  obtain ⟨fn,hf,h1⟩:=h1
  obtain ⟨fn',hf',h2⟩:=h2
  rw [hf] at hf';injection hf' with hf';subst hf'
  rw [hf] at h3
  rw [Option.bind_eq_some_iff] at h1
  obtain ⟨c,hc,h1⟩:=h1
  unfold dCode at h1
  split at h1
  ·rename_i c0 id o1 o2 rest
   split at h1
   ·rename_i t' fc' caps' x y e1 e2 e3
    injection h1 with h1;injection h1 with q1 h1;injection h1 with q2 h1;injection h1 with q3 h1;injection h1 with q4 q5
    subst q1;subst q2;subst q3;subst q4;subst q5
    obtain ⟨k0,k1,k2,k3,k4,k5,k6⟩:=Jtcz e1
    exact ⟨fn,c0,rest,id,o1,o2,hf,hc,⟨kills,e2⟩,⟨kills,e3⟩,h2,by simpa using h3,k0,k1,k2,k3,k4,k5,k6⟩
   ·cases h1
  ·cases h1
 ·rw [Option.bind_eq_some_iff] at h4
  obtain ⟨fn,hf,h4⟩:=h4
  rw [hf] at h5
  simp only [Option.map_some,Option.some.injEq,Bool.and_eq_true,decide_eq_true_eq] at h5
  rw [Option.bind_eq_some_iff] at h4
  obtain ⟨c,hc,h4⟩:=h4
  unfold rCode at h4
  split at h4
  ·rename_i id o1 o2 rest
   split at h4
   ·rename_i d1' d2' x e1 e2
    injection h4 with h4;injection h4 with q1 h4;injection h4 with q2 q3
    subst q1;subst q2;subst q3
    obtain ⟨k0,k1,k2,k3,k4,k5,k6,k7⟩:=Jty3 e1
    exact ⟨fn,rest,id,o1,o2,hf,hc,⟨killsc,e2⟩,by simpa using h5.1,h5.2,k0,k1,k2,k3,k4,k5,k6,k7⟩
   ·cases h4
  ·cases h4
def WkE(st:ASt)(n:Nat):List (Nat × AV)→Prop
 | []=>True
 | (t,y)::r=>(∃ x,get st.env t=some x∧WkT st.H n x y)∧WkE st n r
def WkHs(H:List Blk)(n:Nat):List Blk→List Blk→Prop
 | _,[]=>True
 | k0::r0,k::r=>WkB H n k0 k∧WkHs H n r0 r
 | [],_::_=>False
theorem Jt5p{st:ASt}{n:Nat}:∀ {l:List (Nat × AV)},WkE st n l→∀ p∈l,∃ x,get st.env p.1=some x∧WkT st.H n x p.2:=by
 intro l
 induction l with
 | nil=>intro _ p hp;simp at hp
 | cons q l ih=>
  intro h p hp
  obtain ⟨t,y⟩:=q
  rcases List.mem_cons.1 hp with rfl | hp
  ·exact h.1
  ·exact ih h.2 p hp
theorem Jt5w{H:List Blk}{n:Nat}:∀ {l0 l:List Blk},WkHs H n l0 l→∀ (b:Nat) (k:Blk),l[b]?=some k→∃ k0,l0[b]?=some k0∧WkB H n k0 k:=by
 intro l0 l
 induction l generalizing l0 with
 | nil=>intro _ b k h;simp at h
 | cons k l ih=>
  intro h b k' hk
  cases l0 with
  | nil=>exact h.elim
  | cons k0 l0=>
   cases b with
   | zero=>simp at hk;subst hk;exact ⟨k0,rfl,h.1⟩
   | succ b=>simp at hk;simpa using ih h.2 b k' hk
theorem Jt5x{H:List Blk}{n:Nat}:∀ {l0 l:List Blk},WkHs H n l0 l→l.length≤l0.length:=by
 intro l0 l
 induction l generalizing l0 with
 | nil=>intro _;simp
 | cons k l ih=>
  intro h
  cases l0 with
  | nil=>exact h.elim
  | cons k0 l0=>have:=ih h.2;simp;omega
theorem Wk.of{m:Nat}{st st':ASt}(he:WkE st st'.H.length st'.env)(hh:WkHs st.H st'.H.length st.H st'.H)(hm:m≤st'.H.length):Wk m st st':=
 ⟨Jt5p he,Jt5x hh,hm,fun b k hk=>Jt5w hh b k hk⟩
theorem WkB.same{H:List Blk}{n:Nat}{cells:List AV}(h:renL (fun b=>if b<n then some b else none) cells=some cells):WkB H n (.mem cells) (.mem cells):=by
 refine .mem _ _ rfl fun j x y hx hy=>.inl ?_
 rw [hx] at hy;injection hy with hy;subst hy
 obtain ⟨_,h2⟩:=Jt15p h
 obtain ⟨z,hz,hr⟩:=h2 j x hx
 rw [hx] at hz;injection hz with hz;subst hz
 exact .refl _ hr
theorem Jt1l6{H:List Blk}{n:Nat}{x:AV}(h:x.ren (fun b=>if b<n then some b else none)=some x):WkT H n x x:=.inl (.refl _ h)
theorem Jt1l4{H:List Blk}{n:Nat}{x:AV}(h:x.erase.ren (fun b=>if b<n then some b else none)=some x.erase):WkT H n x x.erase:=.inl (.erase _ h)
theorem Jt1l5{H:List Blk}{n e:Nat}:WkT H n .nils (.own e []):=.inr ⟨rfl,e,rfl⟩
theorem Jt5k{H:List Blk}{n:Nat}{x y:AV}{as bs:List AV}(h:WkT H n x y)(hr:WkB H n (.mem as) (.mem bs)):WkB H n (.mem (x::as)) (.mem (y::bs)):=by
 cases hr with
 | mem _ _ hl h2=>
  refine .mem _ _ (by simp [hl]) fun j u v hu hv=>?_
  cases j with
  | zero=>simp at hu hv;subst hu;subst hv;exact h
  | succ j=>simp at hu hv;exact h2 j u v hu hv
theorem Jt5n{H:List Blk}{n:Nat}:WkB H n (.mem []) (.mem []):=.mem _ _ rfl fun j x y h=>by simp at h
def Jt16d (rows:List (List D)):List AV:=rows.flatten.map AV.d
theorem renL_d{ρ:Nat→Option Nat}(l:List D):renL ρ (l.map AV.d)=some (l.map AV.d):=by
 induction l with
 | nil=>rfl
 | cons x l ih=>simp [renL,AV.ren,ih]
theorem Jt5o{H:List Blk}{n:Nat}{rows:List (List D)}:WkB H n (.mem (Jt16d rows)) (.mem (Jt16d rows)):=.same (renL_d _)
theorem wrap_i64{n:Int}(h1:-9223372036854775808≤n)(h2:n≤9223372036854775807):IntKind.i64.wrap n=n:=by
 rw [IntKind.wrap_i64];omega
theorem Jt1ld{a b:Nat}(h:a+b<4611686018427387904):IntKind.i64.wrap ((a:Int)+(b:Int))=((a+b:Nat):Int):=by
 rw [wrap_i64 (by omega) (by omega)];rfl
theorem Jt1le{k:Nat}(h:k<4611686018427387904):IntKind.i64.wrap ((k:Int)+1)=((k+1:Nat):Int):=by
 rw [wrap_i64 (by omega) (by omega)];rfl
theorem wkA {p : Prop} (h : p := by ((refine Wk.of ?_ ?_ (by simp) <;> repeat' (first | exact True.intro | exact ⟨_, rfl, Jt1l6 rfl⟩ | exact ⟨_, rfl, Jt1l4 rfl⟩ | exact ⟨_, rfl, .inl .nild⟩ | exact ⟨_, rfl, .inl .nile⟩ | exact ⟨_, rfl, Jt1l5⟩ | exact Jt1l6 rfl | exact Jt1l4 rfl | exact .inl .nild | exact .inl .nile | exact Jt1l5 | exact WkB.same rfl | exact Jt5o | exact Jt5n | exact .dead _ | exact .iter _ _ | exact .glob _ _ | refine Jt5k ?_ ?_ | refine And.intro ?_ ?_)); first | done | fail "(exact wkA)")) : p := h
section
variable {P:Program} {m:Nat} {Q:AExit→ASt→Prop} {st:ASt} {K:ASt→Prop} {QP:AV→ASt→Prop} {dst:Option Nat} {io:AO}
theorem Jt4a{t:Nat}{want:Bool}(h:get st.env t=some (.d (.bool want))):AWop P ⟨dst,io,some (t,want),true⟩ K QP st↔qOk true dst st∧AWio P true io dst K QP st:=by
 unfold AWop;simp [h]
theorem Jt47{t:Nat}{want:Bool}(h:get st.env t=some (.d (.bool !want))):AWop P ⟨dst,io,some (t,want),true⟩ K QP st↔qOk true dst st∧K (put dst (.tup []) st):=by
 unfold AWop;cases want<;>simp [h]
theorem Jt48{t:Nat}(h:get st.env t=some (.d (.bool false))):AWop P ⟨dst,io,some (t,true),true⟩ K QP st↔qOk true dst st∧K (put dst (.tup []) st):=Jt47 h
theorem Jt49{t:Nat}(h:get st.env t=some (.d (.bool true))):AWop P ⟨dst,io,some (t,false),true⟩ K QP st↔qOk true dst st∧K (put dst (.tup []) st):=Jt47 h
theorem Jt46{t:Nat}{want:Bool}(h:get st.env t=some (.tup [])):AWop P ⟨dst,io,some (t,want),true⟩ K QP st↔qOk true dst st∧K (put dst (.tup []) st):=by
 unfold AWop;simp [h]
attribute [simp] Jt4a Jt48 Jt49 Jt46
attribute [simp] wback
theorem Jt19(bs:List Nat){f:Nat}{args cargs:List AV}{Hp Hc Hc' Hb:List Blk}{x y:AV}(h:Jt51 P f cargs Hc fun o H'=>o=.ret x∧H'=Hc')
  (hnd:bs.Nodup) (ha:renL (idx bs) args=some cargs) (hp:picks st.H bs=some Hp) (hc:renB (idx bs) Hp=some Hc) (hb:renB (back bs st.H.length 0) Hc'=some Hb)
  (hl:Hc'.length=bs.length) (hx:x.ren (back bs st.H.length 0)=some y) (hK:K (put dst y ⟨unview st.env,wback st.H bs Hb⟩)):AWcall P false f args dst K QP st:=by
 refine .inr ⟨rfl,.inr ⟨bs,hnd,cargs,Hp,Hc,ha,hp,hc,h.mono ?_⟩⟩
 rintro o H' ⟨rfl,he⟩
 subst he
 have ht:H'.take (bs.length+0)=H':=by rw [Nat.add_zero,←hl,List.take_length]
 have hlen:∀ {l l':List Blk},renB (back bs st.H.length 0) l=some l'→l'.length=l.length:=by
  intro l
  induction l with
  | nil=>intro l' h;simp [renB] at h;subst h;rfl
  | cons k l ih=>
   intro l' h
   simp only [renB] at h
   split at h
   ·rename_i a b h1 h2;injection h with h;subst h;simp [ih h2]
   ·cases h
 refine ⟨0,Hb,y,by rw [ht];exact hb,by omega,hx,?_⟩
 have e:Hb.length=bs.length:=by rw [hlen hb,hl]
 rw [←e,List.take_length,List.drop_length,List.append_nil]
 exact hK
theorem Jt15l{ρ:Nat→Option Nat}:∀ {l l':List Blk},renB ρ l=some l'→l'.length=l.length:=by
 intro l
 induction l with
 | nil=>intro l' h;simp [renB] at h;subst h;rfl
 | cons k l ih=>
  intro l' h
  simp only [renB] at h
  split at h
  ·rename_i a b h1 h2;injection h with h;subst h;simp [ih h2]
  ·cases h
theorem Jt1b(bs:List Nat)(e:Nat){f:Nat}{args cargs:List AV}{Hp Hc Hc' Hb:List Blk}{x y:AV}(h:Jt51 P f cargs Hc fun o H'=>o=.ret x∧H'=Hc')
  (hnd:bs.Nodup) (ha:renL (idx bs) args=some cargs) (hp:picks st.H bs=some Hp) (hc:renB (idx bs) Hp=some Hc) (hb:renB (back bs st.H.length e) Hc'=some Hb)
  (hl:Hc'.length=bs.length+e) (hx:x.ren (back bs st.H.length e)=some y) (hK:K (put dst y ⟨unview st.env,wback st.H bs (Hb.take bs.length)++Hb.drop bs.length⟩)):AWcall P false f args dst K QP st:=by
 refine .inr ⟨rfl,.inr ⟨bs,hnd,cargs,Hp,Hc,ha,hp,hc,h.mono ?_⟩⟩
 rintro o H' ⟨rfl,he⟩
 subst he
 have ht:H'.take (bs.length+e)=H':=by rw [←hl,List.take_length]
 exact ⟨e,Hb,y,by rw [ht];exact hb,by omega,hx,hK⟩
theorem Fin_wk{rs:List RV}{m:Nat}{Q:AOut→List Blk→Prop}{st:ASt}(x x':AV)(H':List Blk)(h:rV st rs=some x)(hw:Wk m ⟨[(0,x)],st.H⟩ ⟨[(0,x')],H'⟩) (hq:Q (.ret x') H'):Fin rs m Q .normal st:=⟨x,h,x',H',hw,hq⟩
theorem Jt58{rs:List RV}{m:Nat}{Q:AOut→List Blk→Prop}{st:ASt}(x x':AV)(H':List Blk)(h:rV st rs=some x)(hw:Wk m ⟨[(0,x)],st.H⟩ ⟨[(0,x')],H'⟩) (hq:Q (.ret x') H'):Fin rs m Q .ret st:=⟨x,h,x',H',hw,hq⟩
@[simp] theorem Jt1r{q:Bool}{x:Opd}:AWio P q (.asg x) dst K QP st↔goG K dst st q x (ev st.env x):=by
 cases x with
 | c y=>
  simp only [AWio,Jt4v,opV,ev]
  cases y<;>simp [goG,go1,AV.erase]
 | t i=>
  simp only [AWio,Jt4v,opV,ev]
  cases hg:get st.env i with
  | none=>simp [goG,go1]
  | some y=>cases y<;>simp [goG,go1,AV.erase]
@[simp] theorem Jt37{x:Opd}:AWio P false (.rng x) dst K QP st↔AWrng x dst K st:=by simp [AWio]
attribute [simp] AWrng
def goT(K:ASt→Prop)(dst:Option Nat)(st:ASt)(q:Bool)(i:Nat):Option AV→Prop
 | some (.own e rows)=>q=false∧∃ d,dst=some d∧d≠i∧K ⟨(d,.own e rows)::(i,.d (.sl rows))::unview st.env,st.H⟩
 | some (.view (.tmp j) e rows)=>q=false∧∃ d,dst=some d∧d≠j∧K ⟨(d,.own e rows)::(j,.d (.sl rows))::unview st.env,st.H⟩
 | some y=>K (put dst y.erase st)
 | none=>False
@[simp] theorem Jt3g{q:Bool}{i:Nat}:AWio P q (.take (.t i)) dst K QP st↔goT K dst st q i (get st.env i):=by
 simp only [AWio,Jt4v,opV,ev]
 cases hg:get st.env i with
 | none=>simp [goT,go1]
 | some y=>
  cases y<;>try simp [goT,go1,AV.erase]
  rename_i org e rows
  cases org<;>simp [goT,go1,AV.erase]
attribute [simp] goT
theorem Jt1o{esz bytes:Nat}{x y:Opd}{org:Place}{rows rows' ys:List (List D)} (h:evr st.env x=some (.d (.sl rows'))) (hg:Jth4 st.env x=some (some org,esz,rows)) (hy:Jt7n st.env y=some ys)
  (hr:∀ r∈ys,r.length=esz) (hz:0<esz) (hn:rows.length+ys.length≤1000000000000000000) (hb:(rows.length+ys.length)*bytes≤140737488355328) (hK:K (put dst (.own esz (rows++ys)) (dropOwn org rows st))) :
  AWio P false (.app esz bytes x y) dst K QP st:=by
 simp only [AWio,h]
 exact ⟨trivial,some org,esz,rows,ys,hg,hy,fun _=>rfl,hr,hz,hn,hb,hK⟩
theorem Jt1n{q:Bool}{esz bytes:Nat}{x y:Opd}{ys:List (List D)} (h:evr st.env x=some .nile) (hy:Jt7n st.env y=some ys)
  (hr:∀ r∈ys,r.length=esz) (hz:0<esz) (hn:ys.length≤1000000000000000000) (hb:ys.length*bytes≤140737488355328) (hK:ys=[]→K (put dst .nile st)) (hK':ys≠[]→K (put dst (.own esz ys) st)) :
  AWio P q (.app esz bytes x y) dst K QP st:=by
 simp only [AWio,h]
 exact .inl ⟨ys,hy,hr,hz,hn,hb,hK,hK'⟩
theorem Jt1l{esz bytes:Nat}{x y:Opd}{ys:List (List D)} (h:evr st.env x=some .nile∨evr st.env x=some .nils) (hy:Jt7n st.env y=some ys)
  (hr:∀ r∈ys,r.length=esz) (hz:0<esz) (hn:ys.length≤1000000000000000000) (hb:ys.length*bytes≤140737488355328) (hne:ys≠[]) (hK:K (put dst (.hsl st.H.length 0 esz ys.length) ⟨st.env,st.H++[.mem (Jt16d ys)]⟩)) :
  AWio P false (.app esz bytes x y) dst K QP st:=by
 rcases h with h | h
 ·simp only [AWio,h]
  exact .inr ⟨trivial,ys,hy,hr,hz,hn,hb,hne,hK⟩
 ·simp only [AWio,h]
  exact .inr ⟨trivial,.inr ⟨ys,hy,hr,hz,hn,hb,hne,hK⟩⟩
theorem Jt2n{esz bytes n:Nat}{z:List D}{l c:Opd}(hl:asIx st.env l=some (n:Int)) (hc:asIx st.env c=some (n:Int)) (h1:n≤1000000000000000000) (h2:n*bytes≤140737488355328) (hz:0<esz)
  (hzl:z.length=esz) (hK:K (put dst (.hsl st.H.length 0 esz n) ⟨st.env,st.H++[.mem (Jt16d (List.replicate n z))]⟩)):AWio P false (.mkslice esz bytes z l c) dst K QP st:=
 ⟨rfl,n,n,hl,hc,h1,h2,hz,hzl,.inr ⟨rfl,.inl hK⟩⟩
theorem Jt2o{esz bytes n:Nat}{z:List D}{l c:Opd}(hl:asIx st.env l=some 0)(hc:asIx st.env c=some (n:Int)) (h1:n≤1000000000000000000) (h2:n*bytes≤140737488355328) (hz:0<esz)
  (hzl:z.length=esz) (hK:K (put dst (.own esz []) st)):AWio P false (.mkslice esz bytes z l c) dst K QP st:=
 ⟨rfl,0,n,hl,hc,h1,h2,hz,hzl,.inl ⟨rfl,.inl hK⟩⟩
theorem Jt2p{esz bytes n:Nat}{z:List D}{l c:Opd}(hl:asIx st.env l=some 0)(hc:asIx st.env c=some (n:Int)) (h1:n≤1000000000000000000) (h2:n*bytes≤140737488355328) (hz:0<esz)
  (hzl:z.length=esz) (hK:K (put dst (.hsl0 st.H.length esz) ⟨st.env,st.H++[.mem []]⟩)):AWio P false (.mkslice esz bytes z l c) dst K QP st:=
 ⟨rfl,0,n,hl,hc,h1,h2,hz,hzl,.inl ⟨rfl,.inr hK⟩⟩
theorem Jt1k{esz bytes b:Nat}{x y:Opd}{ys:List (List D)} (h:evr st.env x=some (.hsl0 b esz)) (hb:st.H[b]?=some (.mem [])) (hy:Jt7n st.env y=some ys) (hr:∀ r∈ys,r.length=esz) (hz:0<esz) (hne:ys≠[])
  (hn:ys.length≤1000000000000000000) (hbt:ys.length*bytes≤140737488355328) (hK:K (put dst (.hsl b 0 esz ys.length) ⟨unview st.env,st.H.set b (.mem (Jt16d ys))⟩)) (hK':K (put dst (.hsl st.H.length 0 esz ys.length) ⟨st.env,st.H++[.mem (Jt16d ys)]⟩)) :
  AWio P false (.app esz bytes x y) dst K QP st:=by
 simp only [AWio,h]
 exact ⟨trivial,b,ys,h,hb,hy,hr,hz,hne,hn,hbt,hK,hK'⟩
theorem Jt2j (h:∀ r,K (put dst (.mp r) ⟨st.env,st.H++[.glob r (mpO [] 0)]⟩)):AWio P false (.mo .mk) dst K QP st:=⟨rfl,h⟩
theorem Jt30{x k v:Opd}{r b c:Nat}{n:Int}{es:List (Int × Nat)} (hx:evr st.env x=some (.mp r)) (hk:evr st.env k=some (.d (.int .i64 n))) (hv:evr st.env v=some (.d (.bool true))) (hb:st.H[b]?=some (.glob r (mpO es c)))
  (h:K ⟨unview st.env,st.H.set b (.glob r (mpO (mputE es c n) (mputC es c n)))⟩):AWio P false (.mo (.set x k v)) none K QP st:=⟨rfl,rfl,r,n,b,es,c,hx,hk,hv,hb,h⟩
theorem Jt2h{x k:Opd}{r b c:Nat}{n:Int}{es:List (Int × Nat)} (hx:evr st.env x=some (.mp r)) (hk:evr st.env k=some (.d (.int .i64 n))) (hb:st.H[b]?=some (.glob r (mpO es c)))
  (h:K (put dst (.d (.bool (decide (n∈es.map Prod.fst)))) st)):AWio P false (.mo (.get x k)) dst K QP st:=⟨rfl,r,n,b,es,c,hx,hk,hb,h⟩
theorem Jt2r{x:Opd}{r b c:Nat}{es:List (Int × Nat)} (hx:evr st.env x=some (.mp r)) (hb:st.H[b]?=some (.glob r (mpO es c)))
  (h:K (put dst (.d (.int .i64 es.length)) st)):AWio P false (.mo (.len x)) dst K QP st:=⟨rfl,r,b,es,c,hx,hb,h⟩
theorem Jt2y{x:Opd}{r b c:Nat}{es:List (Int × Nat)} (hx:evr st.env x=some (.mp r)) (hb:st.H[b]?=some (.glob r (mpO es c)))
  (h:∀ r',K (put dst (.ptr st.H.length 0) ⟨st.env,st.H++[.glob r' (itO r c [])]⟩)):AWio P false (.mo (.rng x)) dst K QP st:=⟨rfl,r,b,es,c,hx,hb,h⟩
theorem Jt2u{x:Opd}{bi r' r b c:Nat}{es:List (Int × Nat)} {seen:List Nat} (hx:evr st.env x=some (.ptr bi 0)) (hi:st.H[bi]?=some (.glob r' (itO r c seen))) (hb:st.H[b]?=some (.glob r (mpO es c))) (hc:∀ e∈es,e.2<c)
  (h1:∀ e∈es,e.2∉seen→K (put dst (.tup [.d (.bool true),.d (.int .i64 e.1),.d (.bool true)]) ⟨unview st.env,st.H.set bi (.glob r' (itO r c (seen++[e.2])))⟩))
  (h2:(∀ e∈es,e.2∈seen)→K (put dst (.tup [.d (.bool false)]) ⟨unview st.env,st.H⟩)):AWio P false (.mo (.nxt x)) dst K QP st:=⟨rfl,bi,r',r,b,es,c,seen,hx,hi,hb,hc,h1,h2⟩
theorem Jt2f{x:Opd}{bi r' r b c:Nat}{es:List (Int × Nat)} {seen:List Nat} (e:Int × Nat) (hx:evr st.env x=some (.ptr bi 0)) (hi:st.H[bi]?=some (.glob r' (itO r c (seen++[e.2])))) (hb:st.H[b]?=some (.glob r (mpO es c))) (he:e∈es) (hn:(es.map Prod.snd).Nodup)
  (h:K (put dst (.tup [.d (.int .i64 e.1),.d (.bool true)]) st)):AWio P false (.mo (.ent x)) dst K QP st:=⟨rfl,bi,r',r,b,es,c,seen,e,hx,hi,hb,he,hn,h⟩
theorem Jt2q{esz bytes n:Nat}{z:List AV}{l c:Opd}(hl:asIx st.env l=some (n:Int)) (hc:asIx st.env c=some (n:Int)) (h1:n≤1000000000000000000) (h2:n*bytes≤140737488355328) (h0:0<esz) (hzl:z.length=esz)
  (hz:z.all AV.leaf=true) (hz2:z.all AV.notOwn=true) (h:K (put dst (.hsl st.H.length 0 esz n) ⟨st.env,st.H++[.mem (List.replicate n z).flatten]⟩)):AWio P false (.mo (.mks esz bytes z l c)) dst K QP st:=⟨rfl,n,hl,hc,h1,h2,h0,hzl,hz,hz2,h⟩
@[simp] theorem Jtgx{n b off r:Nat}{cells:List AV}{v:Opd}:goS3 K st n b off cells v (some (.mp r))↔1=n∧off+n≤cells.length∧K ⟨unview st.env,st.H.set b (.mem (spl cells off [.mp r]))⟩:=by
 cases v<;>simp [goS3,AV.erase,AV.cells,AV.leaf]
theorem Jtga {rows:List (List D)} {e:Nat} (he:∀ r∈rows,r.length=e):rows.flatten.length=rows.length*e:=by
 induction rows with
 | nil=>simp
 | cons r rows ih=>
  have h1:=he r (by simp)
  have h2:=ih fun r hr=>he r (by simp [hr])
  simp only [List.flatten_cons,List.length_append,List.length_cons,h1,h2,Nat.add_mul,Nat.one_mul];omega
theorem Jt16l {rows:List (List D)} {e:Nat} (he:∀ r∈rows,r.length=e):(Jt16d rows).length=rows.length*e:=by simp only [Jt16d,List.length_map,Jtga he]
theorem Jt1cw {rows:List (List D)} {e k:Nat} {row:List D} (he:∀ r∈rows,r.length=e) (hr:row.length=e) (hk:k<rows.length):spl (Jt16d rows) (k*e) (row.map AV.d)=Jt16d (rows.set k row):=by
 unfold Jt16d
 induction rows generalizing k with
 | nil=>simp at hk
 | cons r rows ih=>
  have h1:=he r (by simp)
  cases k with
  | zero=>
   simp only [Nat.zero_mul,List.set_cons_zero,List.flatten_cons,List.map_append,spl,List.take_zero,List.nil_append,List.length_map,Nat.zero_add,hr]
   rw [List.drop_left' (by simp [h1])]
  | succ k=>
   have h2:=ih (fun r hr=>he r (by simp [hr])) (k:=k) (by simpa using hk)
   simp only [List.set_cons_succ,List.flatten_cons,List.map_append,←h2,spl,List.length_map,hr]
   have e1:(k+1)*e=(r.map AV.d).length+k*e:=by rw [Nat.add_mul];simp [h1];omega
   rw [e1,List.take_length_add_append,Nat.add_assoc,List.drop_length_add_append]
   simp only [List.append_assoc]
theorem Jt1z{esz b off len:Nat}{z:List D}{x:Opd}{cells:List AV}(h:evr st.env x=some (.hsl b off esz len)) (hz:z.length=esz) (h0:0<esz) (h1:0<len) (hb:st.H[b]?=some (.mem cells)) (hle:off+len*esz≤cells.length)
  (hK:K (put dst (.tup []) ⟨unview st.env,st.H.set b (.mem (spl cells off (Jt16d (List.replicate len z))))⟩)):AWio P false (.clr esz z x) dst K QP st:=by
 refine ⟨rfl,hz,h0,?_⟩
 rw [h]
 exact ⟨rfl,h1,cells,hb,by simpa using hle,fun r hr=>by rw [List.eq_of_mem_replicate hr];exact hz,hK⟩
theorem Jt15m{ρ:Nat→Option Nat}{rows:List (List D)}:renB ρ [.mem (Jt16d rows)]=some [.mem (Jt16d rows)]:=by
 have:renL ρ (Jt16d rows)=some (Jt16d rows):=renL_d _
 simp only [renB,Blk.ren,this]
theorem Jt16n {rows:List (List D)} {e k:Nat} (he:∀ r∈rows,r.length=e):(Jt16d rows).take (k*e)=Jt16d (rows.take k):=by
 unfold Jt16d
 induction rows generalizing k with
 | nil=>simp
 | cons r rows ih=>
  have h1:=he r (by simp)
  cases k with
  | zero=>simp
  | succ k=>
   have h2:=ih (fun r hr=>he r (by simp [hr])) (k:=k)
   simp only [List.take_succ_cons,List.flatten_cons,List.map_append,←h2]
   have e1:(k+1)*e=(r.map AV.d).length+k*e:=by rw [Nat.add_mul];simp [h1];omega
   rw [e1,List.take_length_add_append]
theorem Jt29{neg:Bool}{x:Opd}{rows:List (List D)} (h:evr st.env x=some (.d (.sl rows))) (h1:rows=[]→K (put dst (.d (.bool !neg)) st)) (h2:K (put dst (.d (.bool neg)) st)):AWio P false (.isnil neg x) dst K QP st:=by
 refine ⟨rfl,?_⟩
 unfold Jt3k;rw [h];exact ⟨h1,h2⟩
theorem Jt16t{α:Type}{f:α→List D}{n:Nat}{l:List α}(h:∀ x,(f x).length=n):∀ r∈l.map f,r.length=n:=by
 intro r hr
 obtain ⟨x,_,rfl⟩:=List.mem_map.1 hr
 exact h x
def WkVs(H:List Blk)(n:Nat):List AV→List AV→Prop
 | [],[]=>True
 | x::xs,y::ys=>WkV H n x y∧WkVs H n xs ys
 | _,_=>False
theorem Jt66{H:List Blk}{n:Nat}:∀ {as bs:List AV},WkVs H n as bs→as.length=bs.length∧∀ (j:Nat) (x y:AV),as[j]?=some x→bs[j]?=some y→WkV H n x y:=by
 intro as
 induction as with
 | nil=>intro bs h;cases bs with
  | nil=>exact ⟨rfl,fun j x y h=>by simp at h⟩
  | cons=>exact h.elim
 | cons a as ih=>intro bs h;cases bs with
  | nil=>exact h.elim
  | cons b bs=>
   obtain ⟨h1,h2⟩:=ih h.2
   refine ⟨by simp [h1],fun j x y hx hy=>?_⟩
   cases j with
   | zero=>simp at hx hy;subst hx;subst hy;exact h.1
   | succ j=>simp at hx hy;exact h2 j x y hx hy
theorem Jt62{H:List Blk}{n:Nat}{as bs:List AV}(h:WkVs H n as bs):WkV H n (.agg as) (.agg bs):=.agg as bs (Jt66 h).1 (Jt66 h).2
theorem Jt64{H:List Blk}{n:Nat}{as bs:List AV}(h:WkVs H n as bs):WkV H n (.tup as) (.tup bs):=.tup as bs (Jt66 h).1 (Jt66 h).2
theorem Jt59{rs:List RV}{Q:AOut→List Blk→Prop}{st:ASt}(x x':AV)(h:rV st rs=some x)(hw:WkV st.H 0 x x')(hq:Q (.ret x') []):Fin rs 0 Q .ret st:=
 Jt58 x x' [] h (Wk.of ⟨⟨x,rfl,.inl hw⟩,trivial⟩ (by simp [WkHs]) (by simp)) hq
theorem Jt65{as bs:List AV}(h:WkVs [] 0 as bs) (n:Nat):∀ p∈enum n bs,∃ x,get (enum n as) p.1=some x∧WkT [] 0 x p.2:=by
 induction as generalizing n bs with
 | nil=>cases bs with
  | nil=>intro p hp;simp [enum] at hp
  | cons=>exact h.elim
 | cons a as ih=>cases bs with
  | nil=>exact h.elim
  | cons b bs=>
   intro p hp
   simp only [enum,List.mem_cons] at hp
   rcases hp with rfl | hp
   ·exact ⟨a,by simp [enum,get],.inl h.1⟩
   ·obtain ⟨x,hx,hk⟩:=ih h.2 (n+1) p hp
    refine ⟨x,?_,hk⟩
    have hne:n≠p.1:=by
     intro e
     have:∀ (l:List AV) (m:Nat),p∈enum m l→m≤p.1:=by
      intro l
      induction l with
      | nil=>intro m h;simp [enum] at h
      | cons y l ih2=>
       intro m h
       simp only [enum,List.mem_cons] at h
       rcases h with rfl | h
       ·exact Nat.le_refl _
       ·have:=ih2 (m+1) h;omega
     have:=this bs (n+1) hp
     omega
    simp only [enum,get,if_neg hne];exact hx
theorem Jt51.wk{P:Program}{f:Nat}{args args':List AV}{Q:AOut→List Blk→Prop}(h:Jt51 P f args' [] Q) (hw:WkVs [] 0 args args'):Jt51 P f args [] Q:=by
 intro g vs w hvs hs
 have hl:=(Jt66 hw).1
 have hwk:Wk 0 ⟨enum 0 args,[]⟩ ⟨enum 0 args',[]⟩:=⟨Jt65 hw 0,by simp,by simp,by simp⟩
 obtain ⟨h1,h2,h3,h4⟩:=hs.weak hwk
 refine (h _ vs w (by omega) (by rw [←hl];exact h1)).mono ?_
 rintro e w' ⟨o,H',g',v,hq,he,hsim,htr,hφ,hlen,hmine⟩
 exact ⟨o,H',g',v,hq,he,hsim,h2.trans htr fun r hr=>.inl (h3 r hr),fun b r hb=>absurd hb (by simp),hlen,fun r hr=>(hmine r hr).imp (h3 r) id⟩
theorem Jt18{q:Bool}{f:Nat}{args cargs cargs':List AV}{x:AV}(h:Jt51 P f cargs' [] fun o _=>o=.ret x) (ha:renL none1 args=some cargs) (hw:WkVs [] 0 cargs cargs') (hx:x.ren none1=some x)
  (hK:K (put dst x st)):AWcall P q f args dst K QP st:=Jt17 (h.wk hw) ha hx hK
end
theorem wkvA {p : Prop} (h : p := by (repeat' (first | exact True.intro | exact WkV.refl _ rfl | exact WkV.erase _ rfl | exact WkV.nild | exact WkV.nile | refine And.intro ?_ ?_ | refine Jt62 ?_ | refine Jt64 ?_)); first | done | fail "(exact wkvA)") : p := h
def D.flat:D→Bool
 | .sl _=>false
 | _=>true
theorem PRel.flat{F F':Nat→Nat}{w w':World}{x:D}{v:Value}(hx:x.flat=true)(h:PRel F w x v):PRel F' w' x v:=by
 cases h with
 | int k n=>exact .int k n
 | bool b=>exact .bool b
 | str s=>exact .str s
 | nil a cap=>cases hx
 | sl=>cases hx
theorem Jt51.unown{P:Program}{f:Nat}{args:List AV}{e:Nat}{rows:List (List D)} (h:Jt51 P f args [] fun o H'=>o=.ret (.own e rows)∧H'=[]) :
  Jt51 P f args [] fun o H'=>o=.ret (.d (.sl rows))∧H'=[]:=by
 intro g vs w hvs hs
 refine (h g vs w hvs hs).mono ?_
 rintro e' w' ⟨o,H',g',v,⟨rfl,rfl⟩,he,hsim,htr,hφ,hlen,hmine⟩
 have hwk:Wk 0 ⟨[(0,.own e rows)],[]⟩ ⟨[(0,.d (.sl rows))],[]⟩:=by (exact wkA)
 obtain ⟨h1,h2,h3,h4⟩:=hsim.weak hwk
 exact ⟨_,_,_,v,⟨rfl,rfl⟩,he,h1,htr.trans h2 hmine,fun b r hb=>absurd hb (by simp),Nat.le_refl _,fun r hr=>hmine r (h3 r hr)⟩
theorem Jt51.opened{P:Program}{f:Nat}{args:List AV}{e:Nat}{rows:List (List D)} (h:Jt51 P f args [] fun o H'=>o=.ret (.own e rows)∧H'=[]) (hne:rows≠[])
  (hfl:∀ r∈rows,∀ x∈r,x.flat=true) (hargs:∀ (t e:Nat) (r:List (List D)),args[t]?≠some (.own e r)) :
  Jt51 P f args [] fun o H'=>o=.ret (.hsl 0 0 e rows.length)∧H'=[.mem (Jt16d rows)]:=by
 intro g vs w hvs hs
 refine (h g vs w hvs hs).mono ?_
 rintro e' w' ⟨o,H',g',v,⟨rfl,rfl⟩,he,hsim,htr,hφ,hlen,hmine⟩
 have hown:=hsim.own (.tmp 0) e rows v (by simp [AP,get,AOut.val]) (by simp [RP])
 have hn:∀ b,g'.φ b=none:=by
  intro b
  cases hb:g'.φ b with
  | none=>rfl
  | some r=>exact absurd (hsim.lt b r hb).2.2 (by simp)
 rcases hown with ⟨_,h0⟩ | ⟨r,cap,c,te,hv,hblk,hF,hle,hcap,hcs,hrows⟩
 ·exact absurd h0 hne
 have howner:Owner ⟨[(0,.own e rows)],[]⟩ g'.φ ⟨#[v],[]⟩ w' (.tmp 0) r:=⟨e,rows,v,by simp [AP,get,AOut.val],by simp [RP],_,_,hv⟩
 have hfresh:w.heap.size≤r:=by
  rcases hmine r (.inr ⟨_,howner⟩) with h1 | h1
  ·exfalso
   rcases h1 with ⟨b,hb⟩ | ⟨p,e1,rows1,v1,hp,_⟩
   ·exact absurd (hs.lt b r hb).2.2 (by simp)
   ·cases p with
    | tmp t=>
     simp only [AP,Jtgq] at hp
     exact hargs t e1 rows1 hp
    | cell b j=>simp [AP] at hp
  ·exact h1
 have hlt:r<w'.heap.size:=by
  have:=(Array.getElem?_eq_some_iff.1 hblk).1;exact this
 have hrel:=hsim.env 0 (.own e rows) (by simp [get,AOut.val])
 simp only [AV.erase] at hrel
 have hv0:(⟨#[v],[]⟩:Act).tmps.getD 0 undef=v:=by simp
 rw [hv0] at hrel
 have hcells:∀ (j:Nat) (x:AV),(Jt16d rows)[j]?=some x→x.leaf=true∧∃ u,c[j]?=some u∧∀ F φ w,Rel F φ w x.erase u:=by
  cases hrel with
  | d _ _ h=>
   cases h with
   | nil=>exact absurd rfl hne
   | sl _ ad cap' esz vs' hesz hl1 _ hfix hc hr=>
    injection hv with hv1 hv2
    injection hv1 with hv1
    subst hv1
    intro j x hx
    unfold Jt16d at hx
    rw [lgM,omS] at hx
    obtain ⟨y,hy,rfl⟩:=hx
    have hes:esz=e:=by
     obtain ⟨r0,hr0⟩:=List.exists_mem_of_ne_nil _ hne
     rw [←hesz r0 hr0,hrows r0 hr0]
    subst hes
    have hj:j<vs'.length:=by
     rw [hl1,←Jtga hrows];exact (lgS.1 hy).1
    have hu:vs'[j]?=some vs'[j]:=by simp [hj]
    have hcell:=hc j _ hu
    have hyf:y.flat=true:=by
     obtain ⟨r1,hr1,hy1⟩:=List.mem_flatten.1 (lmG hy)
     exact hfl r1 hr1 y hy1
    refine ⟨rfl,vs'[j],?_,fun F φ w=>.d _ _ ((hr j y _ hy hu).flat hyf)⟩
    have e1:(⟨r,0,none⟩:Addr).add j=⟨r,j,none⟩:=by
     unfold Addr.add;split
     ·rename_i h0;subst h0;rfl
     ·simp
    rw [e1,cell_of_row w' r j c te (0,0) hblk] at hcell
    exact hcell
 have hno:∀ (p:Place) (e1:Nat) (rows1:List (List D)),AP ⟨[(0,(AOut.ret (.hsl 0 0 e rows.length)).val)],[.mem (Jt16d rows)]⟩ p≠some (.own e1 rows1):=by
  intro p e1 rows1 hp
  cases p with
  | tmp t=>
   simp only [AP,AOut.val,get] at hp
   split at hp<;>cases hp
  | cell b j=>
   simp only [AP] at hp
   split at hp
   ·rename_i cells hb
    have:b=0:=by have:=(lgS.1 hb).1;simpa using this
    subst this
    simp only [List.getElem?_cons_zero,Option.some.injEq,Blk.mem.injEq] at hb
    subst hb
    unfold Jt16d at hp
    rw [lgM,omS] at hp
    obtain ⟨y,_,hy⟩:=hp
    cases hy
   ·cases hp
 refine ⟨.ret (.hsl 0 0 e rows.length),[.mem (Jt16d rows)],⟨fun b=>if b=0 then some r else none,fun i=>if i=r then 0 else g'.F i⟩,v,⟨rfl,rfl⟩,he,?_,?_,fun b r hb=>absurd hb (by simp),by simp,?_⟩
 ·refine { size:=by simp,env:=?_,inj:=?_,lt:=?_,dom:=?_,mem:=?_,iter:=?_,glob:=?_,own:=?_,excl:=?_,apart:=?_,view:=?_}
  ·intro t x hx
   simp only [AOut.val,get] at hx
   split at hx
   ·rename_i ht;subst ht
    injection hx with hx;subst hx
    rw [hv0,hv]
    exact .hsl 0 0 e rows.length r cap _ (by simp) hle (fun _=>rfl) (fun _=>by rw [Jtcw hblk,hcs];omega)
   ·cases hx
  ·intro b b' q hb hb'
   simp only at hb hb'
   split at hb<;>split at hb'<;>simp_all
  ·intro b q hb
   simp only at hb ⊢
   split at hb
   ·rename_i h0;subst h0;injection hb with hb;subst hb;exact ⟨hlt,by simp,by simp⟩
   ·cases hb
  ·intro b k hk _
   have:b=0:=by have:=(lgS.1 hk).1;simpa using this
   subst this
   exact ⟨r,by simp⟩
  ·intro b cells q hb hq
   have:b=0:=by have:=(lgS.1 hb).1;simpa using this
   subst this
   simp only [List.getElem?_cons_zero,Option.some.injEq,Blk.mem.injEq] at hb
   subst hb
   simp only [if_true,Option.some.injEq] at hq
   subst hq
   refine ⟨c,te,hblk,?_,fun j x hx=>?_⟩
   ·rw [Jt16l hrows,hcs];exact Nat.mul_le_mul_right _ hle
   ·obtain ⟨k1,u,k2,k3⟩:=hcells j x hx
    exact ⟨k1,u,k2,k3 _ _ _⟩
  ·intro b s pos q hb
   have:b=0:=by have:=(lgS.1 hb).1;simpa using this
   subst this
   simp at hb
  ·intro b s pos q hb
   have:b=0:=by have:=(lgS.1 hb).1;simpa using this
   subst this
   simp at hb
  ·exact fun p e1 rows1 v1 hp _=>absurd hp (hno p e1 rows1)
  ·rintro p p' q ⟨e1,rows1,v1,hp,_⟩
   exact absurd hp (hno p e1 rows1)
  ·rintro p q b ⟨e1,rows1,v1,hp,_⟩
   exact absurd hp (hno p e1 rows1)
  ·intro t org e1 rows1 hx
   simp only [AOut.val,get] at hx
   split at hx<;>cases hx
 ·refine ⟨htr.os,htr.tape,htr.output,htr.size,fun q hq hn'=>?_,⟨fun q hq=>?_,htr.stab.cell,htr.stab.size⟩⟩
  ·have:=htr.other q hq hn'
   refine ⟨this.1,?_⟩
   have hqr:q≠r:=by omega
   simp only [if_neg hqr];exact this.2
  ·have hqr:q≠r:=by omega
   simp only [if_neg hqr];exact htr.stab.le q hq
 ·rintro q (⟨b,hb⟩ | ⟨p,e1,rows1,v1,hp,_⟩)
  ·simp only at hb
   split at hb
   ·injection hb with hb;subst hb;exact .inr hfresh
   ·cases hb
  ·exact absurd hp (hno p e1 rows1)
inductive LT where
 | int (k:IntKind)
 | bool
 | str
 | sl (ls:List LT)
 deriving Inhabited
def flatFs (flat:TypeId→Option (List LT)) (sz:TypeId→Nat):List Field→Nat→Option (List LT)
 | [],_=>some []
 | f::fs,o=>if f.offset=o then (match flat f.type with
   | some l=>if l.length=sz f.type then (match flatFs flat sz fs (o+l.length) with | some r=>some (l++r) | none=>none) else none
   | none=>none) else none
def flatT(P:Program):Nat→TypeId→Option (List LT)
 | 0,_=>none
 | n+1,t=>match P.underlying t with
  | some (.int k)=>some [.int k]
  | some .bool=>some [.bool]
  | some .string=>some [.str]
  | some (.slice e)=>match flatT P n e with
   | some ls=>if 0<ls.length∧ls.length=P.cellsOf e then some [.sl ls] else none
   | none=>none
  | some (.struct fs)=>match flatFs (flatT P n) P.cellsOf fs.toList 0 with
   | some ls=>if ls.length=P.cellsOf t then some ls else none
   | none=>none
  | _=>none
inductive HasT:LT→D→Prop where
 | int (k:IntKind) (n:Int) (h:(Lit.int k n).wf=true):HasT (.int k) (.int k n)
 | bool (b:Bool):HasT .bool (.bool b)
 | str (s:List UInt8) (h:s.length≤maxLen):HasT .str (.str s)
 | sl (ls:List LT) (rows:List (List D)) (hl:rows.length≤maxLen) (h0:∀ r∈rows,r.length=ls.length) (h:∀ r∈rows,∀ (j:Nat) (l:LT) (x:D),ls[j]?=some l→r[j]?=some x→HasT l x):HasT (.sl ls) (.sl rows)
def HasL(ls:List LT)(ds:List D):Prop:=ds.length=ls.length∧∀ (j:Nat) (l:LT) (x:D),ls[j]?=some l→ds[j]?=some x→HasT l x
theorem HasL.nil:HasL [] []:=⟨rfl,fun j l x h=>by simp at h⟩
theorem HasL.one{l:LT}{x:D}(h:HasT l x):HasL [l] [x]:=⟨rfl,fun j l' x' h1 h2=>by
 cases j with
 | zero=>simp at h1 h2;subst h1;subst h2;exact h
 | succ j=>simp at h1⟩
theorem HasL.append{l l':List LT}{d d':List D}(h:HasL l d)(h':HasL l' d'):HasL (l++l') (d++d'):=by
 refine ⟨by simp [h.1,h'.1],fun j x y h1 h2=>?_⟩
 by_cases hj:j<l.length
 ·rw [lgA hj] at h1
  rw [lgA (by rw [h.1];exact hj)] at h2
  exact h.2 j x y h1 h2
 ·rw [List.getElem?_append_right (by omega)] at h1
  rw [List.getElem?_append_right (by rw [h.1];omega),h.1] at h2
  exact h'.2 _ x y h1 h2
noncomputable def sizes(w:World)(r:Nat):Nat:=match w.heap[r]? with | some (.cells c _ _)=>c.size | _=>0
theorem Jtg5{w:World}{ad:Addr}{vs:List Value}(h:Jtah w ad vs):Jtg4 (sizes w) ad vs.length:=by
 intro j hj
 have h1:=h j vs[j] (by simp [hj])
 obtain ⟨h2,_⟩:=Jtae h1
 rw [h2] at h1
 unfold World.cell? at h1
 unfold sizes
 simp only at h1
 split at h1
 ·rename_i c e fr hc
  simp only [hc]
  simp at h1
  exact (Array.getElem?_eq_some_iff.1 h1).1
 ·cases h1
section
variable {H:Type} {enc:TypeId × Value→H} {P:Program} {w:World} {base:Nat} {spare:Nat→Bool} {held:Bool}
def Reads(w:World)(ls:List LT)(cs:List Value):Prop:=∃ ds:List D,cs.length=ds.length∧HasL ls ds∧∀ (j:Nat) (y:D) (u:Value),ds[j]?=some y→cs[j]?=some u→PRel (sizes w) w y u
theorem Jtya {flat:TypeId→Option (List LT)} {sz:TypeId→Nat} {cs:List Value}:∀ (fs:List Field) (o:Nat) (ls:List LT),flatFs flat sz fs o=some ls→
  (∀ f∈fs,∀ l,flat f.type=some l→Reads w l ((cs.drop f.offset).take (sz f.type)))→cs.length=o+ls.length→Reads w ls (cs.drop o):=by
 intro fs
 induction fs with
 | nil=>
  intro o ls h _ hl
  simp [flatFs] at h;subst h
  refine ⟨[],by simp at hl ⊢;omega,.nil,fun j y u h=>by simp at h⟩
 | cons f fs ih=>
  intro o ls h hf hl
  simp only [flatFs] at h
  split at h
  ·rename_i ho
   split at h
   ·rename_i l hfl
    split at h
    ·rename_i hls
     split at h
     ·rename_i r hr
      injection h with h;subst h
      rw [List.length_append] at hl
      obtain ⟨d1,e1,h1,p1⟩:=hf f (by simp) l hfl
      obtain ⟨d2,e2,h2,p2⟩:=ih (o+l.length) r hr (fun g hg=>hf g (by simp [hg])) (by omega)
      rw [ho,←hls] at e1 p1
      have hd1:d1.length=l.length:=h1.1
      have hcs:cs.drop o=(cs.drop o).take l.length++cs.drop (o+l.length):=by
       conv=>lhs;rw [←List.take_append_drop l.length (cs.drop o),List.drop_drop]
      have htl:((cs.drop o).take l.length).length=l.length:=by rw [e1,hd1]
      refine ⟨d1++d2,?_,h1.append h2,?_⟩
      ·rw [hcs,List.length_append,List.length_append,e1,e2]
      ·intro j y u hy hu
       rw [hcs] at hu
       by_cases hj:j<l.length
       ·rw [lgA (by omega)] at hy
        rw [lgA (by omega)] at hu
        exact p1 j y u hy hu
       ·rw [List.getElem?_append_right (by omega),hd1] at hy
        rw [List.getElem?_append_right (by omega),htl] at hu
        exact p2 _ y u hy hu
     ·cases h
    ·cases h
   ·cases h
  ·cases h
theorem Jtc7{Q:Nat→List D→List Value→Prop}:∀ (n:Nat),(∀ i,i<n→∃ r c,Q i r c)→∃ (R:List (List D)) (C:List (List Value)),R.length=n∧C.length=n∧∀ i r c,R[i]?=some r→C[i]?=some c→Q i r c:=by
 intro n
 induction n with
 | zero=>intro _;exact ⟨[],[],rfl,rfl,fun i r c h=>by simp at h⟩
 | succ n ih=>
  intro h
  obtain ⟨R,C,h1,h2,h3⟩:=ih fun i hi=>h i (by omega)
  obtain ⟨r,c,hq⟩:=h n (by omega)
  refine ⟨R++[r],C++[c],by simp [h1],by simp [h2],fun i r' c' hr hc=>?_⟩
  by_cases hi:i<n
  ·rw [lgA (by omega)] at hr hc
   exact h3 i r' c' hr hc
  ·have hin:i=n:=by
    have:=(lgS.1 hr).1
    simp [h1] at this;omega
   subst hin
   rw [List.getElem?_append_right (by omega)] at hr hc
   simp [h1] at hr;simp [h2] at hc
   subst hr;subst hc;exact hq
theorem reads:∀ (n m:Nat) (t:TypeId) (cs:List Value) (x:DataW H × List MemPlace) (ls:List LT),DataW.trod enc P w base spare held n t cs=some x→flatT P m t=some ls→Reads w ls cs:=by
 intro n
 induction n with
 | zero=>intro m t cs x ls h;simp [DataW.trod] at h
 | succ n ih=>
  intro m t cs x ls h hf
  cases m with
  | zero=>simp [flatT] at hf
  | succ m=>
   unfold flatT at hf
   split at hf
   ·rename_i k hk
    injection hf with hf;subst hf
    obtain ⟨z,rfl,_,hw⟩:=DataW.trod_int hk h
    exact ⟨[.int k z],rfl,.one (.int k z hw),fun j y u hy hu=>by
     cases j with
     | zero=>simp at hy hu;subst hy;subst hu;exact .int k z
     | succ j=>simp at hy⟩
   ·rename_i hk
    injection hf with hf;subst hf
    obtain ⟨b,rfl,_⟩:=DataW.trod_bool hk h
    exact ⟨[.bool b],rfl,.one (.bool b),fun j y u hy hu=>by
     cases j with
     | zero=>simp at hy hu;subst hy;subst hu;exact .bool b
     | succ j=>simp at hy⟩
   ·rename_i hk
    injection hf with hf;subst hf
    obtain ⟨s,rfl,_,hw⟩:=DataW.trod_string hk h
    have es:s=⟨s.data.toList.toArray⟩:=by cases s;simp
    refine ⟨[.str s.data.toList],rfl,.one (.str _ (by rw [Array.length_toList];exact hw)),fun j y u hy hu=>?_⟩
    cases j with
    | zero=>
     simp at hy hu;subst hy;subst hu
     have:=PRel.str (F:=sizes w) (w:=w) s.data.toList
     rwa [←es] at this
    | succ j=>simp at hy
   ·rename_i e hk
    split at hf
    ·rename_i l hl
     split at hf
     ·rename_i hls
      injection hf with hf;subst hf
      obtain ⟨hpos,hce⟩:=hls
      rcases DataW.trod_slice hk h with ⟨rfl,_⟩ | ⟨a,len,cap,elems,rest,n',hn,rfl,hx,hb,hlc,hcm,hel,hget,_,_⟩
      ·refine ⟨[.sl []],rfl,.one (.sl l [] (by simp) (by simp) (by simp)),fun j y u hy hu=>?_⟩
       cases j with
       | zero=>simp at hy hu;subst hy;subst hu;exact .nil _ _
       | succ j=>simp at hy
      ·injection hn with hn;subst hn
       have hrow:∀ i,i<len→∃ (r:List D) (c:List Value),c.length=r.length∧HasL l r∧(∀ (j:Nat) (y:D) (u:Value),r[j]?=some y→c[j]?=some u→PRel (sizes w) w y u)∧∀ k u,c[k]?=some u→w.cell? (a.add (i*l.length+k))=some u:=by
        intro i hi
        have hg:=hget i hi
        have:i<elems.length:=by omega
        rw [lgE this,Option.bind_eq_some_iff] at hg
        obtain ⟨c,hc,ht⟩:=hg
        obtain ⟨r,h1,h2,h3⟩:=ih m e c _ l ht hl
        refine ⟨r,c,h1,h2,h3,fun k u hu=>?_⟩
        obtain ⟨_,hclen,hcell⟩:=World.cells?_some hc
        have hk':k<P.cellsOf e:=by have:=(lgS.1 hu).1;omega
        have:=hcell k hk'
        rw [Addr.add_add,←hce] at this
        rw [this];exact hu
       obtain ⟨R,C,hR,hC,hRC⟩:=Jtc7 len hrow
       have hRl:∀ r∈R,r.length=l.length:=by
        intro r hr
        obtain ⟨i,hi,rfl⟩:=List.mem_iff_getElem.1 hr
        exact (hRC i _ C[i] (lgE hi) (lgE (by omega))).2.1.1
       have hCl:∀ c∈C,c.length=l.length:=by
        intro c hc
        obtain ⟨i,hi,rfl⟩:=List.mem_iff_getElem.1 hc
        have:=hRC i R[i] _ (lgE (by omega)) (lgE hi)
        rw [this.1,this.2.1.1]
       have hsplit:∀ j:Nat,j=j / l.length*l.length+j % l.length:=fun j=>by rw [Nat.mul_comm];exact (Nat.div_add_mod j l.length).symm
       have hcells:Jtah w a C.flatten:=by
        intro j u hu
        rw [hsplit j,Jtg9 C l.length hCl _ _ (Nat.mod_lt _ hpos),Option.bind_eq_some_iff] at hu
        obtain ⟨c,hc,hu⟩:=hu
        have hi:j / l.length<len:=by have:=(lgS.1 hc).1;omega
        have:=(hRC _ R[j / l.length] c (by simp [hR,hi]) hc).2.2.2 _ u hu
        rw [←hsplit j] at this;exact this
       have hflen:∀ {α:Type} (L:List (List α)) (k:Nat),(∀ r∈L,r.length=k)→L.flatten.length=L.length*k:=by
        intro α L k hL
        induction L with
        | nil=>simp
        | cons r L ih3=>
         have h1:=hL r (by simp)
         have h2:=ih3 fun r hr=>hL r (by simp [hr])
         simp only [List.flatten_cons,List.length_append,List.length_cons,h1,h2,Nat.add_mul,Nat.one_mul];omega
       refine ⟨[.sl R],rfl,.one (.sl l R (by omega) hRl ?_),fun j y u hy hu=>?_⟩
       ·intro r hr j l' x' h1 h2
        obtain ⟨i,hi,rfl⟩:=List.mem_iff_getElem.1 hr
        exact (hRC i _ C[i] (lgE hi) (lgE (by omega))).2.1.2 j l' x' h1 h2
       ·cases j with
        | succ j=>simp at hy
        | zero=>
         simp at hy hu;subst hy;subst hu
         have:=PRel.sl (F:=sizes w) (w:=w) R a cap l.length C.flatten hRl (by rw [hflen C _ hCl,hC,hR]) (by omega) (Jtg5 hcells) hcells ?_
         ·rwa [hR] at this
         ·intro j y u hy hu
          rw [hsplit j,Jtg9 R l.length hRl _ _ (Nat.mod_lt _ hpos),Option.bind_eq_some_iff] at hy
          rw [hsplit j,Jtg9 C l.length hCl _ _ (Nat.mod_lt _ hpos),Option.bind_eq_some_iff] at hu
          obtain ⟨r,hr,hy⟩:=hy
          obtain ⟨c,hc,hu⟩:=hu
          exact (hRC _ r c hr hc).2.2.1 _ y u hy hu
     ·cases hf
    ·cases hf
   ·rename_i fs hk
    split at hf
    ·rename_i l hl
     split at hf
     ·rename_i hls
      injection hf with hf;subst hf
      obtain ⟨xs,n',hn,_,hcl,hxl,hget⟩:=DataW.trod_struct hk h
      injection hn with hn;subst hn
      have:=Jtya (w:=w) (cs:=cs) fs.toList 0 l hl ?_ (by omega)
      ·simpa using this
      ·intro f hfm l' hl'
       obtain ⟨i,hi,rfl⟩:=List.mem_iff_getElem.1 hfm
       have hi':i<fs.size:=by simpa using hi
       have hg:=hget i fs[i] (by simp [hi'])
       have:i<xs.length:=by omega
       rw [lgE this] at hg
       exact ih m _ _ _ l' hg hl'
     ·cases hf
    ·cases hf
   ·cases hf
end
def AV.plain:AV→Bool
 | .d _=>true
 | .agg _=>true
 | _=>false
theorem AV.plain_erase{x:AV}(h:x.plain=true):x.erase=x:=by cases x<;>simp_all [AV.plain,AV.erase]
theorem Jt17u{w:World}{args:List AV}{vs:Array Value}(hs:vs.size=args.length)(hp:∀ x∈args,x.plain=true)
  (hr:∀ (j:Nat) (x:AV) (v:Value),args[j]?=some x→vs[j]?=some v→Rel (sizes w) (fun _=>none) w x v):Sim args.length ⟨enum 0 args,[]⟩ ⟨fun _=>none,sizes w⟩ ⟨vs,[]⟩ w∧∀ r,¬ Mine ⟨enum 0 args,[]⟩ ⟨fun _=>none,sizes w⟩ ⟨vs,[]⟩ w r:=by
 have hno:∀ p e rows,AP ⟨enum 0 args,[]⟩ p≠some (.own e rows):=by
  intro p e rows h
  cases p with
  | tmp t=>
   simp only [AP,Jtgq] at h
   have:=hp _ (lmG h)
   simp [AV.plain] at this
  | cell b j=>simp [AP] at h
 have hown:∀ p r,¬ Owner ⟨enum 0 args,[]⟩ (fun _=>none) ⟨vs,[]⟩ w p r:=by
  rintro p r ⟨e,rows,v,h,_⟩
  exact hno p e rows h
 refine ⟨⟨by simp [hs],?_,?_,?_,?_,?_,?_,?_,?_,?_,?_,?_⟩,?_⟩
 ·intro t x h
  rw [Jtgq] at h
  rw [AV.plain_erase (hp x (lmG h))]
  have ht:t<vs.size:=by have:=(lgS.1 h).1;omega
  refine hr t x _ h ?_
  simp [Array.getD_eq_getD_getElem?,ht]
 ·intro b b' r h;cases h
 ·intro b r h;cases h
 ·intro b k h;simp at h
 ·intro b cells r h;simp at h
 ·intro b s pos r h;simp at h
 ·intro b s pos r h;simp at h
 ·intro p e rows v h;exact absurd h (hno p e rows)
 ·intro p p' r h;exact absurd h (hown p r)
 ·intro p r b h;exact absurd h (hown p r)
 ·intro t org e rows h
  rw [Jtgq] at h
  have:=hp _ (lmG h)
  simp [AV.plain] at this
 ·rintro r (⟨b,h⟩ | ⟨p,h⟩)
  ·cases h
  ·exact hown p r h
theorem Jt51.law{P:Program}{f:Nat}{args:List AV}(h:Jt51 P f args [] fun o _=>o=.ret (.d (.bool true))) {w:World} {vs:Array Value} (hs:vs.size=args.length) (hp:∀ x∈args,x.plain=true)
  (hr:∀ (j:Nat) (x:AV) (v:Value),args[j]?=some x→vs[j]?=some v→Rel (sizes w) (fun _=>none) w x v):Calls P f vs w fun e w'=>e=.returned (.bool true)∧RowKit.Below w.heap.size w w':=by
 obtain ⟨h1,h2⟩:=Jt17u hs hp hr
 refine (h _ vs w hs h1).mono ?_
 rintro e w' ⟨o,H',g',v,rfl,rfl,hsim,htr,_,_,_⟩
 have hv:Rel g'.F g'.φ w' (.d (.bool true)) v:=hsim.env 0 (.d (.bool true)) (by simp [get,AOut.val])
 cases hv with
 | d _ _ hv=>
  cases hv
  exact ⟨rfl,⟨htr.os,htr.tape,htr.output,htr.size,fun k hk=>(htr.other k hk (h2 k)).1⟩⟩
theorem Jt154{w:World}{ls:List LT}{cs:Array Value}(h:Reads w ls cs.toList):∃ ds,HasL ls ds∧Rel (sizes w) (fun _=>none) w (.agg (ds.map AV.d)) (.agg cs):=by
 obtain ⟨ds,h1,h2,h3⟩:=h
 refine ⟨ds,h2,?_⟩
 have:=Rel.agg (F:=sizes w) (φ:=fun _=>none) (w:=w) (ds.map AV.d) cs.toList (by simp [h1]) ?_
 ·simpa using this
 ·intro j x u hx hu
  rw [lgM,omS] at hx
  obtain ⟨y,hy,rfl⟩:=hx
  exact .d _ _ (h3 j y u hy hu)
theorem Jt155{w:World}{l:LT}{v:Value}(h:Reads w [l] [v]):∃ d,HasT l d∧Rel (sizes w) (fun _=>none) w (.d d) v:=by
 obtain ⟨ds,h1,h2,h3⟩:=h
 match ds,h1 with
 | [d],_=>exact ⟨d,h2.2 0 l d rfl rfl,.d _ _ (h3 0 d v rfl rfl)⟩
theorem Jt1dv{P:Program}{w:World}{base:Nat}{t:TypeId}{fs:Array Field}{v:Value}(hu:P.underlying t=some (.struct fs)) (h:Value.okWide P w .any base t v):∃ cs,v=.agg cs:=by
 unfold Value.okWide at h
 rw [hu] at h
 obtain ⟨cs,h,_⟩:=h
 exact ⟨cs,h⟩
theorem Jt1fc{H:Type}{enc:TypeId × Value→H}{P:Program}{w:World}{base:Nat}{spare:Nat→Bool}{held:Bool}{t:TypeId}{ts:List TypeId}{v:Value}{vs:List Value}{d:DataW H}{ds:List (DataW H)} {p p':List MemPlace}
  (h:DataW.Trod enc P w base spare held t v d p) (hs:DataW.TrodAll enc P w base spare held ts vs ds p'):DataW.TrodAll enc P w base spare held (t::ts) (v::vs) (d::ds) (p++p'):=⟨p,p',h,hs,rfl⟩
end Go.AE
