/- Rows within rows of one's own. -/
import Derived.Test.YtiphlhoclaogjaaGreatDoorJAvC
set_option linter.unusedSimpArgs false
set_option linter.unusedVariables false
set_option linter.unnecessarySimpa false
set_option maxHeartbeats 64000000
namespace Go.Av
open Go Go.RowKit
section ghost
variable {E:Env} {n:Nat} {θ:Th} {σ:St} {a:Act} {w:World}
def Il(θ:Th)(i:Nat)(M:Nat→Option Nat):Th:=⟨θ.v,fun j=>if j=i then M else θ.N j⟩
theorem bZ(θ:Th)(i:Nat)(M:Nat→Option Nat):(Il θ i M).N i=M:=by simp[Il]
theorem Oe(θ:Th){i j:Nat}(M:Nat→Option Nat)(h:j≠i):(Il θ i M).N j=θ.N j:=by simp[Il,h]
theorem J5.reN(h:J5 E n θ σ a w)(i:Nat)(hni:∀b,A5 σ.hp i=some b→V9 b=false)(M:Nat→Option Nat):J5 E n (Il θ i M) σ a w:=by
 have yi:∀{j:Nat} {b:C4} {k:Nat},A5 σ.hp j=some b→(FP (Il θ i M) j b k↔FP θ j b k):=fun {j b k} hj=>by
  unfold FP
  by_cases e:j=i
  ·subst e
   rw[hni b hj]
   simp[Il]
  ·rw[Oe _ _ e]
   rfl
 have le:(cx E θ σ w).le (cx E (Il θ i M) σ w):=⟨Nat.le_refl _,fun j hj=>.inl rfl,fun j hj e' nQ v' l' hl=>⟨e',v',l',hl,.inr ⟨rfl,rfl,rfl⟩⟩,Nat.le_refl _,fun _ _ _=>rfl,fun k hk hu=>by
  rcases hu with hu|⟨j,b,hj,oL⟩
  ·exact .inl hu
  ·exact .inr ⟨j,b,hj,(yi hj).1 oL⟩⟩
 refine⟨h.size,h.defers,h.fr,fun s x hs=>(h.slots s x hs).mono le,fun j b hj=>⟨(h.owns j b hj).1,?_⟩,fun j1 j2 b1 b2 k h1 h2 pd nX=>h.apart j1 j2 b1 b2 k h1 h2 ((yi h1).1 pd) ((yi h2).1 nX),fun j b k hj hk=>h.mine j b k hj ((yi hj).1 hk),h.X,h.base⟩
 by_cases e:j=i
 ·subst e
  have ho:=(h.owns j b hj).2
  have wb:=hni b hj
  cases b with
  |bx τ l=>exact ho.mono (c':=cx E θ σ w) ⟨Nat.le_refl _,fun j hj=>.inl rfl,fun j hj e' nQ v' l' hl=>⟨e',v',l',hl,.inr ⟨rfl,rfl,rfl⟩⟩,Nat.le_refl _,fun _ _ _=>rfl,fun _ _ hu=>hu⟩ rfl (fun _=>rfl) (fun _ _=>rfl) |> fun ⟨b',nw,ty,q1,q2,q3,q4⟩=>⟨b',nw,ty,q1,q2,q3,fun j x y hx hy=>(q4 j x y hx hy).mono le⟩
  |row e1 sz1 v1 l1 =>
   obtain⟨xs,q1,q2,q3,q4⟩:=ho
   refine⟨xs,q1,q2,fun k el hk j x hx=>?_,fun hE=>?_⟩
   ·obtain⟨y,hy,hi⟩:=q3 k el hk j x hx
    exact⟨y,hy,hi.mono le.heap le.U⟩
   ·have:V9 (.row e1 sz1 v1 l1)=true:=Nat.ble_eq▸hE
    rw[wb]at this;cases this
  |map m =>
   obtain⟨r,es,clock,q1,q2,q3,q4⟩:=ho
   exact⟨r,es,clock,q1,q2,q3,fun j kx e hx he=>⟨(q4 j kx e hx he).1,(q4 j kx e hx he).2.mono le.heap le.U⟩⟩
  |it s p=>exact ho
 ·exact(h.owns j b hj).2.mono le rfl (fun k=>congrFun (Oe θ M e) k) fun _ _=>rfl
def Yp(x:AV):AV→Prop
 |.own e _ l=>x=.v (.slice none 0 0)∧l=[]∧e<J4
 |y=>x=y
def GF:List AV→List AV→Prop
 |[],[]=>True
 |a::r,b::s=>Yp a b∧GF r s
 |_,_=>False
theorem GF.len:∀{l m:List AV},GF l m→l.length=m.length
 |[],[],_=>rfl
 |_::_,_::_,h=>congrArg (·+1) h.2.len
theorem GF.get:∀{l m:List AV},GF l m→∀(j:Nat) y,m[j]?=some y→∃x,l[j]?=some x∧Yp x y
 |[],[],_,j,y,h=>by simp at h
 |a::r,b::s,h,j,y,hj=>by
  cases j with
  |zero=>simp at hj;subst hj;exact⟨a,rfl,h.1⟩
  |succ j=>simpa using h.2.get j y (by simpa using hj)
def UP(l m:List (List AV)):Prop:=l.length=m.length∧∀(k:Nat) b,m[k]?=some b→∃a,l[k]?=some a∧GF a b
theorem Yq{α:Type}{f g:α→List AV}{l:List α}(h:∀x∈l,GF (f x) (g x)):UP (l.map f) (l.map g):=by
 refine⟨by simp,fun k b hb=>?_⟩
 rw[List.getElem?_map,Option.map_eq_some_iff]at hb
 obtain⟨x,hx,rfl⟩:=hb
 exact⟨f x,by rw[List.getElem?_map,hx];rfl,h x (List.mem_of_getElem? hx)⟩
def Gh(F:Nat):Prop:=F=K2∨F=U3
theorem Gh.le{F e:Nat}(h:Gh F):K2≤F+e:=by rcases h with rfl|rfl<;>(try unfold U3 K2)<;>omega
theorem Gh.cell{F e:Nat}(h:Gh F)(he:e<J4):Rs (F+e)=e:=by
 rcases h with rfl|rfl
 ·unfold Rs
  rw[Xe (by unfold J4 at he;unfold K2;omega),Bool.cond_false,NJ (Nat.le_add_right _ _),Bool.cond_true,Nat.add_sub_cancel_left]
 ·unfold Rs
  rw[NJ (by unfold U3;omega),Bool.cond_true]
  unfold U3;omega
theorem Yr{e:Nat}(he:e<J4):e9 (K2+e)=false:=by
 cases hb:e9 (K2+e)with
 |false=>rfl
 |true =>
  simp only[e9,Bool.or_eq_true,Bool.and_eq_true,Nat.ble_eq,Nat.blt_eq]at hb
  unfold J4 at he;unfold K8 K2 AX U3 at hb;omega
theorem L9.to_nest{w:World}{g e F:Nat}{nR:Array Value}(h:L9 w g nR e)(he:e<J4)(hF:Gh F):L9 w g nR (F+e):=by
 refine .inr (.inr (.inl ⟨by have:=hF.le (e:=e);unfold K2 at this;unfold K8;omega,Hq hF.le,?_⟩))
 rw[hF.cell he]
 rcases h with ⟨_,h⟩|⟨h,_⟩|⟨h,_⟩|⟨h,_⟩
 ·exact h
 ·omega
 ·unfold J4 at he;unfold K8 at h;omega
 ·rw[Ho (o8 he)]at h;cases h
theorem L9.of_nest{w:World}{g e F:Nat}{nR:Array Value}(h:L9 w g nR (F+e))(he:e<J4)(hF:Gh F):L9 w g nR e:=by
 have:=hF.le (e:=e)
 refine .inl ⟨by unfold J4 at he;unfold K8;omega,?_⟩
 rcases h with ⟨h,_⟩|⟨_,h,_⟩|⟨_,_,h⟩|⟨h,_⟩
 ·unfold K2 at this;unfold K8 at h;omega
 ·unfold K2 at this;unfold K8 at h;omega
 ·rwa[hF.cell he]at h
 ·rw[Hq this]at h;cases h
theorem XD{i e sz v F:Nat}{l l':List (List AV)}(hF:Gh F)(hb:A5 σ.hp i=some (.row e sz v l))(hi:F=U3→E.n0≤i)(he:e<J4)(hl:UP l l'):St.le E n σ (σ.set i (.row (F+e) sz v l')):=by
 rintro a w ⟨θ,h0⟩
 have h:=h0.reN i (fun b nl=>by rw[hb]at nl;cases nl;exact O0 (R3 he)) (fun _=>none)
 have ox:=hb
 obtain⟨_,xs,ho,hsz,oT,_⟩:=h.owns i _ hb
 generalize hθ:Il θ i (fun _=>none)=θ1 at h ho oT
 have hN:∀k,θ1.N i k=none:=fun k=>by rw[←hθ,bZ]
 have rR:∃x m c,θ1 i=.slice x m c:=by
  rcases ho.2 with ⟨h1,_⟩|⟨g,cap,nR,h1,_⟩<;>exact⟨_,_,_,h1⟩
 have sD:S6 w (F+e) sz (θ1 i) l'.length xs:=by
  rw[←hl.1]
  exact⟨ho.1,ho.2.imp id fun ⟨g,cap,nR,h1,h2,h3,r⟩=>⟨g,cap,nR,h1,.ge hF.le,h3.to_nest he hF,r⟩⟩
 have ht:=h.turn (v':=θ1 i) (b':=.row (F+e) sz v l') (w':=w) (hkp:=fun e2 pD v2 l2 h1 h2 h3=>by
  cases h1
  rcases hF with rfl|rfl
  ·rw[Yr he]at h2;cases h2
  ·exact absurd (hi rfl) (by omega)) (hne:=fun _=>.inr hN) hb rfl rfl rfl (Nat.le_refl _) (fun _ _ _=>rfl) (fun k hk=>.inl hk) ⟨rR,e,v,l,rfl,.inr ⟨rfl,hl.1,rfl⟩⟩ fun le=>by
  refine⟨xs,by simp only[cx,F0];exact sD,fun el nJ=>?_,fun k el hk j x hx=>?_,fun _=>⟨fun k p hk=>?_,fun k el hk j e' nQ m hj=>?_⟩⟩
  ·obtain⟨k,hk⟩:=List.mem_iff_getElem?.1 nJ
   obtain⟨a0,ha,hn⟩:=hl.2 k el hk
   rw[←hn.len];exact hsz a0 (List.mem_of_getElem? ha)
  ·obtain⟨a0,ha,hn⟩:=hl.2 k el hk
   obtain⟨x0,pY,h1⟩:=hn.get j x hx
   obtain⟨y,hy,hz⟩:=oT k a0 ha j x0 pY
   refine⟨y,hy,?_⟩
   cases x with
   |own e' nQ m=>exact .own e' nQ m y
   |_=>simp only[Yp]at h1;subst h1;exact hz.mono le.heap le.U
  ·have oL:θ1.N i k=some p:=hk
   rw[hN k]at oL;cases oL
  ·obtain⟨a0,ha,hn⟩:=hl.2 k el hk
   obtain⟨x0,pY,rfl,rfl,rA⟩:=hn.get j _ hj
   obtain⟨y,hy,hz⟩:=oT k a0 ha j _ pY
   cases hz
   rcases ho.2 with ⟨_,wS⟩|⟨g,cap,nR,h1,h2,h3,h4⟩
   ·rw[List.eq_nil_of_length_eq_zero wS]at ha;simp at ha
   ·have nP:=ho
    have oB:θ1 i=.slice (some ⟨g,0,none⟩) l.length cap:=h1
    rw[show (cx E θ1 σ w).θ i=θ1 i from rfl,oB]at nP
    have nr:=nP.cells (g:=g) rfl _ _ hy
    rw[H3,Nat.zero_add]at nr
    exact⟨g,l.length,cap,.slice none 0 0,[],by simp only[cx,F0];exact oB,nr,⟨by simp,.inl ⟨rfl,rfl⟩⟩,rA,(fun el nJ=>by cases nJ),(fun q oo hq=>by simp at hq),fun b hb=>by cases hb⟩
 exact⟨_,ht⟩
def Pq:AV→AV
 |.own _ sz l=>.sl sz l
 |x=>x
theorem RJ{i e sz v F:Nat}{l l':List (List AV)}(hF:Gh F)(hb:A5 σ.hp i=some (.row (F+e) sz v l))(he:e<J4)(hl:l'=l.map (·.map Pq)):St.le E n σ (σ.set i (.row e sz v l')):=by
 subst hl
 rintro a w ⟨θ,h⟩
 obtain⟨nt,xs,ho,hsz,oT,hne⟩:=h.owns i _ hb
 have hE:=hF.le (e:=e)
 have hN:V9 (.row (F+e) sz v l)=true:=NJ hE
 have rR:∃x m c,θ i=.slice x m c:=by
  rcases ho.2 with ⟨h1,_⟩|⟨g,cap,nR,h1,_⟩<;>exact⟨_,_,_,h1⟩
 have sD:S6 w e sz (θ i) (l.map (·.map Pq)).length xs:=by
  rw[List.length_map]
  exact⟨ho.1,ho.2.imp id fun ⟨g,cap,nR,h1,h2,h3,r⟩=>⟨g,cap,nR,h1,.lt (o8 he),h3.of_nest he hF,r⟩⟩
 have ht:=h.turn (v':=θ i) (b':=.row e sz v (l.map (·.map Pq))) (w':=w) (hkp:=fun e2 pD v2 l2 h1 h2 h3=>by
  cases h1
  rw[Hr he]at h2;cases h2) (hne:=fun h=>by rw[O0 (R3 he)]at h;cases h) hb rfl rfl rfl (Nat.le_refl _) (fun _ _ _=>rfl) (fun k hk=>.inl hk) ⟨rR,F+e,v,l,rfl,.inr ⟨rfl,by simp,rfl⟩⟩ fun le=>by
  refine⟨xs,by simp only[cx,F0];exact sD,fun el nJ=>?_,fun k el hk j x hx=>?_,.lt (R3 he)⟩
  ·obtain⟨e0,xg,rfl⟩:=List.mem_map.1 nJ
   rw[List.length_map];exact hsz e0 xg
  ·rw[List.getElem?_map,Option.map_eq_some_iff]at hk
   obtain⟨rV,rz,rfl⟩:=hk
   rw[List.getElem?_map,Option.map_eq_some_iff]at hx
   obtain⟨x0,pY,rfl⟩:=hx
   obtain⟨y,hy,hz⟩:=oT k rV rz j x0 pY
   refine⟨y,hy,?_⟩
   cases x0 with
   |own e' nQ m =>
    obtain⟨g,m',cap,y',ys,q1,q2,q3,q4,q5,q6,q7⟩:=(hne hE).2 k rV rz j e' nQ m pY
    have nP:=ho
    have xw:θ i=.slice (some ⟨g,0,none⟩) m' cap:=q1
    rw[show (cx E θ σ w).θ i=θ i from rfl,xw]at nP
    have nr:=nP.cells (g:=g) rfl _ _ hy
    rw[H3,Nat.zero_add]at nr
    rw[nr]at q2
    cases q2
    simp only[Pq]
    rcases q3.2 with ⟨h1,h2⟩|⟨g2,rm,uE,h1,_,h3,h4,h5,h6,h7⟩
    ·rw[h1,List.eq_nil_of_length_eq_zero h2];exact .slnil nQ
    ·have q3':=q3
     rw[h1]at q3' ⊢
     obtain⟨uR,hNg⟩:=q7 g2 (by rw[h1];rfl)
     have xN:¬(cx E (upd θ i (θ i)) (σ.set i (.row e sz v (l.map (·.map Pq)))) w).U g2:=by
      rintro (hx|⟨j2,b2,qQ,nX⟩)
      ·exact(h.mine i _ g2 hb (.inr ⟨hN,_,hNg⟩)).1 hx
      ·simp only[cx,St.set,G5]at qQ
       by_cases e2:i=j2
       ·subst e2
        rw[if_pos rfl]at qQ
        cases qQ
        rcases nX with nX|⟨nX,_⟩
        ·simp only[cx,F0]at nX
         rw[xw]at nX
         simp[fp]at nX
         exact uR nX.symm
        ·rw[O0 (R3 he)]at nX;cases nX
       ·rw[if_neg e2]at qQ
        refine e2 (h.apart i j2 _ b2 g2 hb qQ (.inr ⟨hN,_,hNg⟩) ?_)
        unfold FP at nX ⊢
        simpa only[cx,O4 _ _ (Ne.symm e2),NI]using nX
     have pI:∀i,i<m.length→∀j,j<nQ→∃y,ys[i*nQ+j]?=some y:=by
      intro i hi j hj
      have h1:(i+1)*nQ≤m.length*nQ:=Nat.mul_le_mul_right _ hi
      rw[Nat.add_mul,Nat.one_mul]at h1
      have h2:i*nQ+j<ys.length:=by rw[q3.1];omega
      exact⟨_,List.getElem?_eq_getElem h2⟩
     refine .sl nQ m ⟨g2,0,none⟩ rm (fun i j=>ys.getD (i*nQ+j) undef) h4 h5 (fun _ _=>xN) q5 (fun i hi j hj=>?_) (fun k el hk j x hx=>?_)
     ·obtain⟨y,hy⟩:=pI i hi j hj
      have:=q3'.cells (g:=g2) rfl _ _ hy
      rw[H3]
      have e:ys.getD (i*nQ+j) undef=y:=by rw[List.getD,hy];rfl
      rw[e]
      show w.cell? _=_
      have this:w.cell? _=_:=this
      simpa [H3]using this
     ·obtain⟨y,hy,oT⟩:=q6 k el hk j x hx
      have e:ys.getD (k*nQ+j) undef=y:=by rw[List.getD,hy];rfl
      rw[e]
      exact oT.mono le.heap le.U
   |_=>exact hz.mono le.heap le.U
 exact⟨_,ht⟩
theorem J5.take{i ver k off e sz e' nQ:Nat}{l m:List (List AV)}{el:List AV}(h:J5 E n θ σ a w)(hb:A5 σ.hp i=some (.row e sz ver l))(hE:K2≤e)(hk:l[k]?=some el)(yp:el[off]?=some (.own e' nQ m)):
  ∃g n' cap y θ',θ i=.slice (some ⟨g,0,none⟩) n' cap∧w.cell? ⟨g,k*sz+off,none⟩=some y∧θ' σ.nx=y ∧
   J5 E n θ' ⟨σ.sl,σ.nx+1,(σ.nx,some (.row e' nQ 0 m))::(i,some (.row e sz ver (l.set k (el.set off .any))))::σ.hp⟩ a w:=by
 obtain⟨nt,xs,ho,hsz,oT,hne⟩:=h.owns i _ hb
 obtain⟨wg,wQ⟩:=hne hE
 obtain⟨g,n',cap,y,ys,q1,q2,q3,q4,q5,q6,q7⟩:=wQ k el hk off e' nQ m yp
 have xw:θ i=.slice (some ⟨g,0,none⟩) n' cap:=q1
 have nU:k<l.length:=(List.getElem?_eq_some_iff.1 hk).1
 have pN:off<sz:=by rw[←hsz el (List.mem_of_getElem? hk)];exact(List.getElem?_eq_some_iff.1 yp).1
 have hN:V9 (.row e sz ver l)=true:=NJ hE
 let θ':Th:=⟨fun j=>if j=σ.nx then y else θ j,fun j b=>if j=i then (if fp y=some b then none else θ.N i b)else θ.N j b⟩
 let b1:C4:=.row e' nQ 0 m
 let b2:C4:=.row e sz ver (l.set k (el.set off .any))
 let σ':St:=⟨σ.sl,σ.nx+1,(σ.nx,some b1)::(i,some b2)::σ.hp⟩
 have tg:i<σ.nx:=nt
 have nZ:∀j,A5 σ'.hp j=if σ.nx=j then some b1 else if i=j then some b2 else A5 σ.hp j:=fun j=>by simp only[σ',G5]
 have uu:∀j,j<σ.nx→θ' j=θ j:=fun j hj=>by simp only[θ',if_neg (Nat.ne_of_lt hj)]
 have hθ2:θ' σ.nx=y:=by simp only[θ',if_pos]
 have hNi:∀b p,θ'.N i b=some p→θ.N i b=some p:=fun b p hp=>by
  simp only[θ',if_pos]at hp
  split at hp
  ·cases hp
  ·exact hp
 have xo:∀j,j≠i→θ'.N j=θ.N j:=fun j hj=>by simp only[θ',if_neg hj]
 -- the blocks under the new names
 have yf:∀{q:Nat},FP θ' σ.nx b1 q→fp y=some q:=fun hq=>by
  rcases hq with hq|⟨hq,_⟩
  ·rwa[hθ2]at hq
  ·have:V9 b1=false:=O0 (R3 q4)
   rw[this]at hq;cases hq
 have uz:∀{q:Nat},fp y=some q→FP θ i (.row e sz ver l) q:=fun hq=>.inr ⟨hN,_,(q7 _ hq).2⟩
 have tq:∀{q:Nat},FP θ' i b2 q→FP θ i (.row e sz ver l) q∧fp y≠some q:=fun {q} hq=>by
  rcases hq with hq|⟨_,p,hp⟩
  ·rw[uu i tg]at hq
   refine⟨.inl hq,fun hy=>(q7 q hy).1 ?_⟩
   rw[xw]at hq
   simp[fp]at hq
   exact hq.symm
  ·refine⟨.inr ⟨hN,p,hNi q p hp⟩,fun hy=>?_⟩
   simp only[θ',if_pos,hy]at hp
   cases hp
 have rq:∀{j:Nat} {b:C4} {q:Nat},j≠i→j<σ.nx→FP θ' j b q→FP θ j b q:=fun hj nN hq=>by
  unfold FP at hq ⊢
  rwa[uu _ nN,xo _ hj]at hq
 have le:(cx E θ σ w).le (cx E θ' σ' w):=by
  refine⟨Nat.le_succ _,fun j hj=>.inl (uu j hj),fun j hj e2 pD v2 l2 hl=>?_,Nat.le_refl _,fun _ _ _=>rfl,fun q _ hu=>?_⟩
  ·have nk:j<σ.nx:=hj
   have oG:A5 σ'.hp j=some (.row e2 pD v2 l2):=hl
   rw[nZ,if_neg (by omega)]at oG
   by_cases ei:i=j
   ·subst ei
    rw[if_pos rfl]at oG
    have oG:some (C4.row e sz ver (l.set k (el.set off .any)))=some (.row e2 pD v2 l2):=oG
    cases oG
    exact⟨e,ver,l,hb,.inr ⟨rfl,by simp,uu i tg⟩⟩
   ·rw[if_neg ei]at oG
    exact⟨e2,v2,l2,oG,.inr ⟨rfl,rfl,uu j nk⟩⟩
  ·rcases hu with hu|⟨j,b,hj,hq⟩
   ·exact .inl hu
   ·have nk:A5 σ'.hp j=some b:=hj
    rw[nZ]at nk
    by_cases en:σ.nx=j
    ·subst en
     rw[if_pos rfl]at nk
     cases nk
     exact .inr ⟨i,_,hb,uz (yf hq)⟩
    ·rw[if_neg en]at nk
     by_cases ei:i=j
     ·subst ei
      rw[if_pos rfl]at nk
      cases nk
      exact .inr ⟨i,_,hb,(tq hq).1⟩
     ·rw[if_neg ei]at nk
      exact .inr ⟨j,b,nk,rq (Ne.symm ei) (h.owns j b nk).1 hq⟩
 refine⟨g,n',cap,y,θ',xw,q2,hθ2,h.size,h.defers,h.fr,fun s x hs=>(h.slots s x hs).mono le,fun j b hj=>?_,fun j1 j2 c1 c2 q h1 h2 sR oy=>?_,fun j b q hj hq=>?_,h.X,⟨Nat.le_succ_of_le h.base.1,fun j hj=>?_⟩⟩
 ·have nk:A5 σ'.hp j=some b:=hj
  rw[nZ]at nk
  by_cases en:σ.nx=j
  ·subst en
   rw[if_pos rfl]at nk
   cases nk
   refine⟨Nat.lt_succ_self _,ys,?_,q5,fun k el hk j x hx=>?_,.lt (R3 q4)⟩
   ·show S6 w e' nQ (θ' σ.nx) m.length ys
    rw[hθ2];exact q3
   ·obtain⟨z,hz,hi⟩:=q6 k el hk j x hx
    exact⟨z,hz,hi.mono le.heap le.U⟩
  ·rw[if_neg en]at nk
   by_cases ei:i=j
   ·subst ei
    rw[if_pos rfl]at nk
    cases nk
    refine⟨Nat.lt_succ_of_lt tg,xs,?_,fun tQ sP=>?_,fun k2 tQ nX j2 x2 qV=>?_,fun _=>⟨fun b p hp=>wg b p (hNi b p hp),fun k2 tQ nX j2 e2 pD m2 qQ=>?_⟩⟩
    ·show S6 w e sz (θ' i) _ xs
     rw[uu i tg,List.length_set];exact ho
    ·rcases List.mem_or_eq_of_mem_set sP with h2|h2
     ·exact hsz _ h2
     ·rw[h2,List.length_set];exact hsz el (List.mem_of_getElem? hk)
    ·by_cases ek:k=k2
     ·subst ek
      rw[List.getElem?_set_self nU]at nX
      cases nX
      by_cases ej:off=j2
      ·subst ej
       obtain⟨z,hz,hi⟩:=oT k el hk off _ yp
       have nN:off<el.length:=(List.getElem?_eq_some_iff.1 yp).1
       rw[List.getElem?_set_self nN]at qV
       cases qV
       exact⟨z,hz,.any _⟩
      ·rw[List.getElem?_set_ne ej]at qV
       obtain⟨z,hz,hi⟩:=oT k el hk j2 x2 qV
       exact⟨z,hz,hi.mono le.heap le.U⟩
     ·rw[List.getElem?_set_ne ek]at nX
      obtain⟨z,hz,hi⟩:=oT k2 tQ nX j2 x2 qV
      exact⟨z,hz,hi.mono le.heap le.U⟩
    ·obtain⟨rV,g1,g2,g3⟩:=WY (P:=fun q=>q≠k*sz+off) hk hsz pN (av:=.any) rfl (fun q hq=>hq) k2 tQ nX j2 e2 pD m2 qQ
     obtain⟨g',n2,rm,y2,ys2,r1,r2,r3,r4,r5,r6,r7⟩:=wQ k2 rV g1 j2 e2 pD m2 g2
     refine⟨g',n2,rm,y2,ys2,(uu i tg).trans r1,r2,r3,r4,r5,fun q oo hq j' x hx=>?_,fun b nl=>⟨(r7 b nl).1,?_⟩⟩
     ·obtain⟨z,hz,hi⟩:=r6 q oo hq j' x hx
      exact⟨z,hz,hi.mono le.heap le.U⟩
     ·show θ'.N i b=_
      have h3:=(r7 b nl).2
      have wU:fp y≠some b:=fun hy=>by
       have h4:=(q7 b hy).2
       rw[h4]at h3
       exact g3 (Option.some.inj h3).symm
      simp only[θ',if_pos,if_neg wU]
      exact h3
   ·rw[if_neg ei]at nk
    obtain⟨h1,h2⟩:=h.owns j b nk
    exact⟨Nat.lt_succ_of_lt h1,h2.mono le (uu j h1) (fun q=>congrFun (xo j (Ne.symm ei)) q) fun _ _=>rfl⟩
 ·have oB:A5 σ'.hp j1=some c1:=h1
  have oM:A5 σ'.hp j2=some c2:=h2
  rw[nZ]at oB oM
  by_cases n1:σ.nx=j1<;>by_cases n2:σ.nx=j2
  ·omega
  ·subst n1
   rw[if_pos rfl]at oB
   rw[if_neg n2]at oM
   cases oB
   have hy:=yf sR
   by_cases ei:i=j2
   ·subst ei
    rw[if_pos rfl]at oM
    cases oM
    exact absurd hy (tq oy).2
   ·rw[if_neg ei]at oM
    exact absurd (h.apart i j2 _ c2 q hb oM (uz hy) (rq (Ne.symm ei) (h.owns j2 c2 oM).1 oy)) ei
  ·subst n2
   rw[if_pos rfl]at oM
   rw[if_neg n1]at oB
   cases oM
   have hy:=yf oy
   by_cases ei:i=j1
   ·subst ei
    rw[if_pos rfl]at oB
    cases oB
    exact absurd hy (tq sR).2
   ·rw[if_neg ei]at oB
    exact absurd (h.apart i j1 _ c1 q hb oB (uz hy) (rq (Ne.symm ei) (h.owns j1 c1 oB).1 sR)) ei
  ·rw[if_neg n1]at oB
   rw[if_neg n2]at oM
   by_cases e1:i=j1<;>by_cases e2:i=j2
   ·omega
   ·subst e1
    rw[if_pos rfl]at oB
    rw[if_neg e2]at oM
    cases oB
    exact h.apart i j2 _ c2 q hb oM (tq sR).1 (rq (Ne.symm e2) (h.owns j2 c2 oM).1 oy)
   ·subst e2
    rw[if_pos rfl]at oM
    rw[if_neg e1]at oB
    cases oM
    exact h.apart j1 i c1 _ q oB hb (rq (Ne.symm e1) (h.owns j1 c1 oB).1 sR) (tq oy).1
   ·rw[if_neg e1]at oB
    rw[if_neg e2]at oM
    exact h.apart j1 j2 c1 c2 q oB oM (rq (Ne.symm e1) (h.owns j1 c1 oB).1 sR) (rq (Ne.symm e2) (h.owns j2 c2 oM).1 oy)
 ·have nk:A5 σ'.hp j=some b:=hj
  rw[nZ]at nk
  by_cases en:σ.nx=j
  ·subst en
   rw[if_pos rfl]at nk
   cases nk
   exact h.mine i _ q hb (uz (yf hq))
  ·rw[if_neg en]at nk
   by_cases ei:i=j
   ·subst ei
    rw[if_pos rfl]at nk
    cases nk
    exact h.mine i _ q hb (tq hq).1
   ·rw[if_neg ei]at nk
    exact h.mine j b q nk (rq (Ne.symm ei) (h.owns j b nk).1 hq)
 ·have wS:=h.base.1
  rw[uu j (by omega)]
  refine(h.base.2 j hj).imp id fun ⟨h1,h2⟩=>⟨h1,fun ⟨e2,pD,v2,l2,hl,oS⟩=>h2 ?_⟩
  have oG:A5 σ'.hp j=some (.row e2 pD v2 l2):=hl
  rw[nZ,if_neg (by omega)]at oG
  by_cases ei:i=j
  ·subst ei
   rw[if_pos rfl]at oG
   have oG:some (C4.row e sz ver (l.set k (el.set off .any)))=some (.row e2 pD v2 l2):=oG
   cases oG
   exact⟨_,_,_,_,hb,oS⟩
  ·rw[if_neg ei]at oG
   exact⟨_,_,_,_,oG,oS⟩
theorem J5.give{i ver k off e sz e' nQ m vm g n' cap:Nat}{l l2:List (List AV)}{el:List AV}{w':World}{nR:Array Value}(h:J5 E n θ σ a w)(hb:A5 σ.hp i=some (.row e sz ver l))(hE:K2≤e)(hk:l[k]?=some el)(pN:off<sz)
  (hm:A5 σ.hp m=some (.row e' nQ vm l2)) (rA:e'<J4) (tw:m≠i) (hθ:θ i=.slice (some ⟨g,0,none⟩) n' cap) (hg:L9 w g nR e) (st:k*sz+off<l.length*sz) (hw:w'=w.setRow g (nR.setIfInBounds (k*sz+off) (θ m))) :
  ∃θ',J5 E n θ' ⟨σ.sl,σ.nx,(m,none)::(i,some (.row e sz ver (l.set k (el.set off (.own e' nQ l2)))))::σ.hp⟩ a w':=by
 obtain⟨nt,xs,ho,hsz,oT,hne⟩:=h.owns i _ hb
 obtain⟨qZ,ys,xh,vi,zi,_⟩:=h.owns m _ hm
 obtain⟨wg,wQ⟩:=hne hE
 have nU:k<l.length:=(List.getElem?_eq_some_iff.1 hk).1
 have hN:V9 (.row e sz ver l)=true:=NJ hE
 have si:w'.os=w.os:=by rw[hw];rfl
 have nd:w'.heap.size=w.heap.size:=by rw[hw];simp
 have hh:∀q,q≠g→w'.heap[q]?=w.heap[q]?:=fun q hq=>by rw[hw];exact setRow_other w g q _ hq
 have oN:∀q,q≠k*sz+off→w'.cell? ⟨g,q,none⟩=w.cell? ⟨g,q,none⟩:=fun q hq=>by rw[hw];exact Sg hg q hq
 let P0:=k*sz+off
 let θ':Th:=⟨θ.v,fun j b=>if j=i then (if fp (θ m)=some b then some P0 else θ.N i b)else θ.N j b⟩
 let b2:C4:=.row e sz ver (l.set k (el.set off (.own e' nQ l2)))
 let σ':St:=⟨σ.sl,σ.nx,(m,none)::(i,some b2)::σ.hp⟩
 have nZ:∀j,A5 σ'.hp j=if m=j then none else if i=j then some b2 else A5 σ.hp j:=fun j=>by simp only[σ',G5]
 have xo:∀j,j≠i→θ'.N j=θ.N j:=fun j hj=>by simp only[θ',if_neg hj]
 have xa:V9 (.row e' nQ vm l2)=false:=O0 (R3 rA)
 have tq:∀{q:Nat},FP θ' i b2 q→FP θ i (.row e sz ver l) q∨fp (θ m)=some q:=fun {q} hq=>by
  rcases hq with hq|⟨_,p,hp⟩
  ·exact .inl (.inl hq)
  ·simp only[θ',if_pos]at hp
   split at hp
   ·rename_i hq;exact .inr hq
   ·exact .inl (.inr ⟨hN,p,hp⟩)
 have rq:∀{j:Nat} {b:C4} {q:Nat},j≠i→FP θ' j b q→FP θ j b q:=fun hj hq=>by
  unfold FP at hq ⊢
  rwa[xo _ hj]at hq
 have wl:FP θ i (.row e sz ver l) g:=.inl (by rw[hθ];rfl)
 have hgm:∀q,fp (θ m)=some q→q≠g:=fun q hq e2=>tw (h.apart m i _ _ q hm hb (.inl hq) (by rw[e2];exact wl))
 have le:(cx E θ σ w).le (cx E θ' σ' w'):=by
  refine⟨Nat.le_refl _,fun j hj=>.inl rfl,fun j hj e2 pD v2 l3 hl=>?_,by rw[show (cx E θ' σ' w').w=w' from rfl,nd];exact Nat.le_refl _,fun q hq hu=>hh q fun e2=>hu (.inr ⟨i,_,hb,by rw[e2];exact wl⟩),fun q _ hu=>?_⟩
  ·have oG:A5 σ'.hp j=some (.row e2 pD v2 l3):=hl
   rw[nZ]at oG
   by_cases em:m=j
   ·rw[if_pos em]at oG;cases oG
   ·rw[if_neg em]at oG
    by_cases ei:i=j
    ·subst ei
     rw[if_pos rfl]at oG
     have oG:some (C4.row e sz ver (l.set k (el.set off (.own e' nQ l2))))=some (.row e2 pD v2 l3):=oG
     cases oG
     exact⟨e,ver,l,hb,.inr ⟨rfl,by simp,rfl⟩⟩
    ·rw[if_neg ei]at oG
     exact⟨e2,v2,l3,oG,.inr ⟨rfl,rfl,rfl⟩⟩
  ·rcases hu with hu|⟨j,b,hj,hq⟩
   ·exact .inl hu
   ·have nk:A5 σ'.hp j=some b:=hj
    rw[nZ]at nk
    by_cases em:m=j
    ·rw[if_pos em]at nk;cases nk
    ·rw[if_neg em]at nk
     by_cases ei:i=j
     ·subst ei
      rw[if_pos rfl]at nk
      cases nk
      rcases tq hq with h1|h1
      ·exact .inr ⟨i,_,hb,h1⟩
      ·exact .inr ⟨m,_,hm,.inl h1⟩
     ·rw[if_neg ei]at nk
      exact .inr ⟨j,b,nk,rq (Ne.symm ei) hq⟩
 have za:∀{j:Nat} {b:C4} {q:Nat},j≠i→A5 σ.hp j=some b→FP θ j b q→q≠g:=fun hji hj hq e2=>hji (h.apart _ i _ _ _ hj hb hq (by rw[e2];exact wl))
 refine⟨θ',h.size,h.defers.mono fun q hd=>hh q fun e2=>(h.owns i _ hb).2.nodf wl (e2▸hd),⟨si.trans h.fr.os,by rw[hw];exact h.fr.tape,by rw[hw];exact h.fr.output,by rw[nd];exact h.fr.size,fun q hq hO=>?_⟩,fun s x hs=>(h.slots s x hs).mono le,fun j b hj=>?_,fun j1 j2 c1 c2 q h1 h2 sR oy=>?_,fun j b q hj hq=>?_,h.X,⟨h.base.1,fun j hj=>?_⟩⟩
 ·rw[hh q fun e2=>?_]
  ·exact h.fr.block q hq hO
  ·rcases(h.mine i _ g hb wl).2 with h2|h2
   ·exact hO (e2▸h2)
   ·omega
 ·have nk:A5 σ'.hp j=some b:=hj
  rw[nZ]at nk
  by_cases em:m=j
  ·rw[if_pos em]at nk;cases nk
  ·rw[if_neg em]at nk
   by_cases ei:i=j
   ·subst ei
    rw[if_pos rfl]at nk
    cases nk
    have hxs:xs[P0]?=some (xs[P0]'(by rw[ho.1];exact st)):=List.getElem?_eq_getElem _
    refine⟨nt,xs.set P0 (θ m),?_,fun tQ sP=>?_,fun k2 tQ nX j2 x2 qV=>?_,fun _=>⟨fun b p hp=>?_,fun k2 tQ nX j2 e2 pD m2 qQ=>?_⟩⟩
    ·show S6 w' e sz (θ i) _ _
     refine⟨by rw[List.length_set,List.length_set];exact ho.1,?_⟩
     rcases ho.2 with ⟨hn,_⟩|⟨g',od,uH,r1,r2,r3,r4,r5,r6,r7⟩
     ·rw[show (cx E θ σ w).θ i=θ i from rfl,hθ]at hn;cases hn
     ·have sd:θ i=.slice (some ⟨g',0,none⟩) l.length od:=r1
      have eg:g'=g:=by rw[hθ]at sd;injection sd with e1 e2;injection e1 with e1;injection e1 with e1;exact e1.symm
      subst eg
      have ec:uH=nR:=by
       obtain⟨_,_,s1,_⟩:=r3.some
       obtain⟨_,_,s2,_⟩:=hg.some
       have xx:w.heap[g']?=_:=s1
       rw[s2]at xx
       injection xx with s3
       injection s3 with s3
       exact s3.symm
      subst ec
      have hg':L9 w' g' (uH.setIfInBounds (k*sz+off) (θ m)) e:=by rw[hw];exact hg.set
      exact .inr ⟨g',od,uH.setIfInBounds (k*sz+off) (θ m),by rw[List.length_set];exact sd,.ge hE,hg',by rw[List.length_set];exact r4,r5,by simp[r6],by rw[List.length_set,Array.toList_setIfInBounds,←r7,List.take_set]⟩
    ·rcases List.mem_or_eq_of_mem_set sP with h2|h2
     ·exact hsz _ h2
     ·rw[h2,List.length_set];exact hsz el (List.mem_of_getElem? hk)
    ·obtain⟨z,hz,hR⟩:=JW (R:=fun x y=>∃y0,Im (cx E θ σ w).U w x y0∧y=y0) (v:=θ m) hk hsz ho.1 pN (fun k el hk j x hx=>by
      obtain⟨y,hy,hi⟩:=oT k el hk j x hx
      exact⟨y,hy,y,hi,rfl⟩) ⟨θ m,.own e' nQ l2 _,rfl⟩ k2 tQ nX j2 x2 qV
     obtain⟨y0,hi,rfl⟩:=hR
     exact⟨z,hz,hi.mono le.heap le.U⟩
    ·show DM w' b
     have oU:∀q,DM w q→DM w' q:=fun q hq=>by
      by_cases e2:q=g
      ·subst e2
       obtain⟨t,fz,uR,_⟩:=hg.some
       exact⟨_,t,fz,by rw[hw];exact setRow_heap w q nR _ t _ uR⟩
      ·exact hq.mono (hh q e2)
     have uP:θ'.N i b=some p:=hp
     simp only[θ',if_pos]at uP
     split at uP
     ·rename_i hq
      refine oU b ?_
      rcases xh.2 with ⟨h1,_⟩|⟨q2,rm,uE,h1,_,h3,_⟩
      ·rw[show θ m=(cx E θ σ w).θ m from rfl,h1]at hq;cases hq
      ·rw[show θ m=(cx E θ σ w).θ m from rfl,h1]at hq
       simp[fp]at hq
       subst hq
       obtain⟨t,fz,h4,_⟩:=h3.some
       exact⟨_,_,_,h4⟩
     ·exact oU b (wg b p uP)
    ·by_cases ek:k=k2∧off=j2
     ·obtain⟨rfl,rfl⟩:=ek
      rw[List.getElem?_set_self nU]at nX
      cases nX
      have nN:off<el.length:=by rw[hsz el (List.mem_of_getElem? hk)];exact pN
      rw[List.getElem?_set_self nN]at qQ
      cases qQ
      refine⟨g,n',cap,θ m,ys,hθ,?_,⟨xh.1,xh.2.imp id fun ⟨p,cp,uE,r1,r2,r3,r4⟩=>⟨p,cp,uE,r1,.lt (o8 rA),r3.mono (hh p (hgm p (by rw[show θ m=(cx E θ σ w).θ m from rfl,r1];rfl))),r4⟩⟩,rA,vi,fun q oo hq j' x hx=>?_,fun b nl=>⟨hgm b nl,?_⟩⟩
      ·show w'.cell? _=_
       obtain⟨t,fz,uR,_⟩:=hg.some
       rw[hw,K1 (setRow_heap w g nR _ t _ uR)]
       have sS:k*sz+off<nR.size:=by
        rcases ho.2 with ⟨hn,_⟩|⟨g',od,uH,r1,r2,r3,r4,r5,r6,r7⟩
        ·rw[show (cx E θ σ w).θ i=θ i from rfl,hθ]at hn;cases hn
        ·have sd:θ i=.slice (some ⟨g',0,none⟩) l.length od:=r1
         have eg:g'=g:=by rw[hθ]at sd;injection sd with e1 e2;injection e1 with e1;injection e1 with e1;exact e1.symm
         subst eg
         obtain⟨_,_,s1,_⟩:=r3.some
         have xx:w.heap[g']?=_:=s1
         rw[uR]at xx
         injection xx with s3
         injection s3 with s3
         rw[s3,r6]
         have:=Nat.mul_le_mul_right sz r4
         omega
       simp[sS]
      ·obtain⟨z,hz,hi⟩:=zi q oo hq j' x hx
       exact⟨z,hz,hi.mono le.heap le.U⟩
      ·show θ'.N i b=_
       simp only[θ',if_pos,nl]
       rfl
     ·have key:∃rV,l[k2]?=some rV∧rV[j2]?=some (.own e2 pD m2)∧k2*sz+j2≠k*sz+off:=by
       by_cases e1:k=k2
       ·subst e1
        rw[List.getElem?_set_self nU]at nX
        cases nX
        have e3:off≠j2:=fun e3=>ek ⟨rfl,e3⟩
        rw[List.getElem?_set_ne e3]at qQ
        exact⟨el,hk,qQ,by omega⟩
       ·rw[List.getElem?_set_ne e1]at nX
        have hj3:j2<sz:=by rw[←hsz tQ (List.mem_of_getElem? nX)];exact(List.getElem?_eq_some_iff.1 qQ).1
        exact⟨tQ,nX,qQ,WX hj3 pN e1⟩
      obtain⟨rV,g1,g2,g3⟩:=key
      obtain⟨g',n2,rm,y2,ys2,r1,r2,r3,r4,r5,r6,r7⟩:=wQ k2 rV g1 j2 e2 pD m2 g2
      have sd:θ i=.slice (some ⟨g',0,none⟩) n2 rm:=r1
      have eg:g'=g:=by rw[hθ]at sd;injection sd with e1 e2;injection e1 with e1;injection e1 with e1;exact e1.symm
      subst eg
      refine⟨g',n2,rm,y2,ys2,sd,(oN _ g3).trans r2,⟨r3.1,r3.2.imp id fun ⟨p,cp,uE,s1,s2,s3,s4⟩=>⟨p,cp,uE,s1,.lt (o8 r4),s3.mono (hh p (r7 p (by rw[s1];rfl)).1),s4⟩⟩,r4,r5,fun q oo hq j' x hx=>?_,fun b nl=>⟨(r7 b nl).1,?_⟩⟩
      ·obtain⟨z,hz,hi⟩:=r6 q oo hq j' x hx
       exact⟨z,hz,hi.mono le.heap le.U⟩
      ·show θ'.N i b=_
       have h3:=(r7 b nl).2
       have wU:fp (θ m)≠some b:=fun hy=>tw (h.apart m i _ _ b hm hb (.inl hy) (.inr ⟨hN,_,h3⟩))
       simp only[θ',if_pos,if_neg wU]
       exact h3
   ·rw[if_neg ei]at nk
    obtain⟨h1,h2⟩:=h.owns j b nk
    exact⟨h1,h2.mono le rfl (fun q=>congrFun (xo j (Ne.symm ei)) q) fun q hq=>hh q (za (Ne.symm ei) nk hq)⟩
 ·have oB:A5 σ'.hp j1=some c1:=h1
  have oM:A5 σ'.hp j2=some c2:=h2
  rw[nZ]at oB oM
  by_cases n1:m=j1
  ·rw[if_pos n1]at oB;cases oB
  ·by_cases n2:m=j2
   ·rw[if_pos n2]at oM;cases oM
   ·rw[if_neg n1]at oB
    rw[if_neg n2]at oM
    by_cases e1:i=j1<;>by_cases e2:i=j2
    ·omega
    ·subst e1
     rw[if_pos rfl]at oB
     rw[if_neg e2]at oM
     cases oB
     rcases tq sR with h3|h3
     ·exact h.apart i j2 _ c2 q hb oM h3 (rq (Ne.symm e2) oy)
     ·exact absurd (h.apart m j2 _ c2 q hm oM (.inl h3) (rq (Ne.symm e2) oy)) n2
    ·subst e2
     rw[if_pos rfl]at oM
     rw[if_neg e1]at oB
     cases oM
     rcases tq oy with h3|h3
     ·exact h.apart j1 i c1 _ q oB hb (rq (Ne.symm e1) sR) h3
     ·exact absurd (h.apart m j1 _ c1 q hm oB (.inl h3) (rq (Ne.symm e1) sR)) n1
    ·rw[if_neg e1]at oB
     rw[if_neg e2]at oM
     exact h.apart j1 j2 c1 c2 q oB oM (rq (Ne.symm e1) sR) (rq (Ne.symm e2) oy)
 ·have nk:A5 σ'.hp j=some b:=hj
  rw[nZ]at nk
  by_cases em:m=j
  ·rw[if_pos em]at nk;cases nk
  ·rw[if_neg em]at nk
   by_cases ei:i=j
   ·subst ei
    rw[if_pos rfl]at nk
    cases nk
    rcases tq hq with h3|h3
    ·exact h.mine i _ q hb h3
    ·exact h.mine m _ q hm (.inl h3)
   ·rw[if_neg ei]at nk
    exact h.mine j b q nk (rq (Ne.symm ei) hq)
 ·refine(h.base.2 j hj).imp id fun ⟨h1,h2⟩=>⟨h1,fun ⟨e2,pD,v2,l3,hl,oS⟩=>h2 ?_⟩
  have oG:A5 σ'.hp j=some (.row e2 pD v2 l3):=hl
  rw[nZ]at oG
  by_cases em:m=j
  ·rw[if_pos em]at oG;cases oG
  ·rw[if_neg em]at oG
   by_cases ei:i=j
   ·subst ei
    rw[if_pos rfl]at oG
    have oG:some (C4.row e sz ver (l.set k (el.set off (.own e' nQ l2))))=some (.row e2 pD v2 l3):=oG
    cases oG
    exact⟨_,_,_,_,hb,oS⟩
   ·rw[if_neg ei]at oG
    exact⟨_,_,_,_,oG,oS⟩
end ghost
section rules
variable {P:Program} {E:Env} {n:Nat} {ops:Array Oper} {rest:List Oper} {σ:St} {K:St→Prop} {ty:TypeId} {pos:String} {after:Array Edge} {x y:Operand}
theorem Gi{d T szT:Nat}[tv:G7 P T false szT]{i ver k off e sz e' nQ:Nat}{l m:List (List AV)}{el:List AV}(hk:l[k]?=some el)(hx:F4 σ x=some (.elt i ver k off))(hb:A5 σ.hp i=some (.row e sz ver l))(hE:Nat.ble K2 e=true)(hj:el[off]?=some (.own e' nQ m))(hd:Nat.blt d n=true)
  (kk:B3 P E n ops rest (St.put ⟨σ.sl,σ.nx+1,(σ.nx,some (.row e' nQ 0 m))::(i,some (.row e sz ver (l.set k (el.set off .any))))::σ.hp⟩ d (.row σ.nx 0 m.length)) K):B3 P E n ops (⟨some d,.load T x,ty,pos,after,none⟩::rest) σ K:=by
 intro a w ⟨θ,hs⟩
 obtain⟨g,n',cap,hθ,hv,_⟩:=Cv (hs.evT.rel hx) hb
 obtain⟨g2,n2,rm,y,θ',h1,h2,h3,h4⟩:=hs.take hb (Nat.ble_eq▸hE) hk hj
 have oh:θ i=.slice (some ⟨g,0,none⟩) n' cap:=hθ
 have eg:g2=g:=by rw[oh]at h1;injection h1 with e1 e2;injection e1 with e1;injection e1 with e1;exact e1.symm
 subst eg
 unfold wpList
 rw[if_pos (by simp[Region.wanted])]
 left
 have hex:(execOp a.eval ⟨some d,.load T x,ty,pos,after,none⟩).run P w=.ok (.value y) w:=by
  simp only[execOp,hv,Instr.loadAt,Instr.sureAddr,Sem.run_bind,Sem.run_pure,Result.andThen_ok]
  rw[BN (P:=P) (sz:=szT) (v:=y) h2]
  rfl
 simp only[Oper.wp,hex,Oper.upon]
 refine kk _ _ ⟨_,h4.put (Nat.blt_eq▸hd) (.row _ _ _ _ (Nat.lt_succ_self _) fun e2 pD v2 l2 nv=>?_)⟩
 simp only[cx,G5,if_pos]at nv
 cases nv
 exact⟨Nat.le_refl _,fun _=>⟨rfl,h3.symm⟩⟩
theorem Gj{T szT:Nat}[tv:G7 P T false szT]{i ver k off e sz e' nQ m vm len:Nat}{l l2:List (List AV)}{el:List AV}(hk:l[k]?=some el)(hx:F4 σ x=some (.elt i ver k off))(hy:F4 σ y=some (.row m vm len))(hb:A5 σ.hp i=some (.row e sz ver l))(hE:Nat.ble K2 e=true)
  (hm:A5 σ.hp m=some (.row e' nQ vm l2)) (rA:Nat.blt e' J4=true) (tw:Nat.beq m i=false) (pN:Nat.blt off sz=true) (h1s:szT=1)
  (kk:B3 P E n ops rest ⟨σ.sl,σ.nx,(m,none)::(i,some (.row e sz ver (l.set k (el.set off (.own e' nQ l2)))))::σ.hp⟩ K):B3 P E n ops (⟨none,.store T x y,ty,pos,after,none⟩::rest) σ K:=by
 intro a w ⟨θ,hs⟩
 obtain⟨g,n',cap,hθ,hv,_⟩:=Cv (hs.evT.rel hx) hb
 obtain⟨_,wm,_⟩:=AB (hs.evT.rel hy) hm
 obtain⟨xs,nP,hsz,hr⟩:=hs.evT.row hb
 have oh:θ i=.slice (some ⟨g,0,none⟩) n' cap:=hθ
 have xX:a.eval y=θ m:=wm
 have nU:k<l.length:=(List.getElem?_eq_some_iff.1 hk).1
 have ho:=Nat.blt_eq▸pN
 have rG:k*sz+off<l.length*sz:=by
  have:(k+1)*sz≤l.length*sz:=Nat.mul_le_mul_right _ nU
  rw[Nat.add_mul,Nat.one_mul]at this
  omega
 rcases nP.2 with ⟨hn,_⟩|⟨g',od,nR,r1,r2,r3,r4,r5,r6,r7⟩
 ·rw[oh]at hn;cases hn
 ·have sd:θ i=.slice (some ⟨g',0,none⟩) l.length od:=r1
  have eg:g'=g:=by rw[oh]at sd;injection sd with e1 e2;injection e1 with e1;injection e1 with e1;exact e1.symm
  subst eg
  obtain⟨xm,xh,_⟩:=hs.evT.row hm
  have xy:(a.eval y).oneCell'=true:=by
   rw[xX]
   rcases xh.2 with ⟨h1,_⟩|⟨_,_,_,h1,_⟩<;>rw[h1]<;>rfl
  have oQ:=Nat.mul_le_mul_right sz r4
  have nz:=JG (P:=P) (T:=T) (ag:=false) (sz:=szT) (v:=a.eval y) xy (Fk xy) h1s r3 (Hq (Nat.ble_eq▸hE)) (off:=k*sz+off) (by omega)
  unfold wpList
  rw[if_pos (by simp[Region.wanted])]
  left
  have hex:=Gr (ty:=ty) (pos:=pos) (after:=after) (o:=none) hv nz
  simp only[Oper.wp,hex,Oper.upon]
  have wF:m≠i:=fun e2=>by subst e2;simp at tw
  obtain⟨θ',h4⟩:=hs.give hb (Nat.ble_eq▸hE) hk ho hm (Nat.blt_eq▸rA) wF sd r3 rG rfl
  rw[xX]
  exact kk _ _ ⟨θ',by simpa [Act.put]using h4⟩
theorem Pr{d T e' sz:Nat}[ts:L5 P T e' sz]{i ver len e:Nat}{s:List (List AV)}{lo hi:Option Operand}{l h:Int}(hx:F4 σ x=some (.row i ver len))(hb:A5 σ.hp i=some (.row e sz ver s))(hl:BP (F4 σ) 0 lo=some l)(hh:BP (F4 σ) len hi=some h)(h0:0≤l)(h1:l≤h)(h2:h≤len)(hd:Nat.blt d n=true)
  (k:B3 P E n ops rest (σ.put d (.sub i ver l.toNat (h.toNat-l.toNat))) K):B3 P E n ops (⟨some d,.slice T x lo hi none,ty,pos,after,none⟩::rest) σ K :=
 JR (E5 fun _ _ _ θ a w hs=>by
  obtain⟨hu,inf,oI,hsz⟩:=ts.out
  obtain⟨nM,hv,nt⟩:=AB (hs.rel hx) hb
  obtain⟨xs,nP,_⟩:=hs.row hb
  have mk:∀y,SN (θ i) sz l.toNat (h.toNat-l.toNat) y→E0 (kx E θ σ.nx σ.hp w) (.sub i ver l.toNat (h.toNat-l.toNat)) y:=fun y hy =>
   .sub _ _ _ _ y nt fun e2 pD v2 l2 nv=>by
    have:A5 σ.hp i=some (.row e2 pD v2 l2):=nv
    rw[hb]at this
    cases this
    exact⟨Nat.le_refl _,fun _=>⟨by omega,hy⟩⟩
  rcases nP.2 with ⟨hn,wS⟩|⟨g,cap,nR,hg,_,_,hc,_⟩
  ·have ob:a.eval x=.slice none 0 0:=hv.trans hn
   have e0:len=0:=by omega
   subst e0
   have e1:h=0:=by omega
   have e2:l=0:=by omega
   subst e1;subst e2
   have nl:=DP (P:=P) (isS:=true) (cap:=0) hs hl hh h0 h1 (by omega)
   refine⟨.slice none 0 0,?_,mk _ (.inl ⟨hn,rfl,rfl,rfl⟩)⟩
   simp only[execOp,ob,Instr.sliceAt,Instr.slice,Sem.run_bind,run_underlying hu,Result.andThen_ok,Option.map_none,nl,Sem.run_pure,sizeOf,typeInfo,program,Sem.run,oI]
   rfl
  ·have ob:a.eval x=.slice (some ⟨g,0,none⟩) s.length cap:=hv.trans hg
   rw[nM]at ob
   have nl:=DP (P:=P) (isS:=true) (cap:=cap) hs hl hh h0 h1 (by omega)
   refine⟨_,?_,mk (.slice (some (if cap=l.toNat then ⟨g,0,none⟩else ⟨g,l.toNat*sz,none⟩)) (h.toNat-l.toNat) (cap-l.toNat)) (.inr ⟨g,_,cap,hg,rfl⟩)⟩
   simp only[execOp,ob,Instr.sliceAt,Instr.slice,Sem.run_bind,run_underlying hu,Result.andThen_ok,Option.map_none,nl,Sem.run_pure,sizeOf,typeInfo,program,Sem.run,oI,hsz,Option.map_some,H3,Nat.zero_add]
   split
   ·rfl
   ·simp only[Option.map,H3,Nat.zero_add]) hd k
theorem XE{c:Cx}{i ver lo len:Nat}{y:Value}(r:E0 c (.sub i ver lo len) y){e sz:Nat}{l:List (List AV)}(hl:A5 c.hp i=some (.row e sz ver l)):lo+len≤l.length∧SN (c.θ i) sz lo len y∧i<c.nx:=by
 cases r with
 |im hi=>cases hi
 |sub i ver lo len x hi h=>exact⟨((h e sz ver l hl).2 rfl).1,((h e sz ver l hl).2 rfl).2,hi⟩
theorem eV{d i ver m e sz:Nat}{l:List (List AV)}(hd:look σ.sl d=some (.sub i ver 0 m))(hb:A5 σ.hp i=some (.row e sz ver l))(oR:e<J4)(hsz:0<sz):St.le E n σ ((σ.set i (.row e sz (ver+1) (l.take m))).put d (.row i (ver+1) m)):=by
 rintro a w ⟨θ,h⟩
 obtain⟨hm,hv,nt⟩:=XE (h.slots d _ hd) hb
 obtain⟨_,xs,ho,qe,oT,_⟩:=h.owns i _ hb
 have qg:e<K8:=by unfold J4 at oR;unfold K8;omega
 have nM:(l.take m).length=m:=by rw[List.length_take];omega
 generalize hy:a.tmps.getD d undef=y at hv
 have ob:SN (θ i) sz 0 m y:=hv
 have rR:∃x m c,θ i=.slice x m c:=by
  rcases ho.2 with ⟨h1,_⟩|⟨g,cap,nR,h1,_⟩<;>exact⟨_,_,_,h1⟩
 have key:S6 w e sz y m (xs.take (m*sz))∧∀k,fp y=some k→fp (θ i)=some k:=by
  have wW:(xs.take (m*sz)).length=m*sz:=by
   rw[List.length_take,ho.1]
   have:=Nat.mul_le_mul_right sz (show m≤l.length by omega)
   omega
  rcases ob with ⟨h1,rfl,_,rfl⟩|⟨g,n',cap,h1,rfl⟩
  ·exact⟨⟨by simpa using wW,.inl ⟨rfl,rfl⟩⟩,fun k hk=>by cases hk⟩
  ·rcases ho.2 with ⟨h2,_⟩|⟨g',od,nR,h2,h3,h4,h5,h6,h7,h8⟩
   ·have oM:θ i=.slice none 0 0:=h2
    rw[h1]at oM;cases oM
   ·have oM:θ i=.slice (some ⟨g',0,none⟩) l.length od:=h2
    rw[h1]at oM
    cases oM
    have ea:(if cap=0 then (⟨g,0,none⟩:Addr)else ⟨g,0*sz,none⟩)=⟨g,0,none⟩:=by split<;>simp
    rw[ea,Nat.sub_zero]
    refine⟨⟨wW,.inr ⟨g,cap,nR,rfl,.lt (o8 oR),h4,by omega,h6,h7,?_⟩⟩,fun k hk=>by rw[h1];exact hk⟩
    rw[←h8,List.take_take]
    congr 1
    have:=Nat.mul_le_mul_right sz (show m≤l.length by omega)
    omega
 have ht:=h.turn (v':=y) (b':=.row e sz (ver+1) (l.take m)) (w':=w) (hkp:=fun _ _ _ _ h hk _=>by cases h;rw[Hr oR]at hk;cases hk) (hne:=fun h=>by rw[O0 (R3 oR)]at h;cases h) hb rfl rfl rfl (Nat.le_refl _) (fun _ _ _=>rfl) (fun k hk=>.inl (key.2 k hk))
  ⟨rR,e,ver,l,rfl,.inl (Nat.lt_succ_self _)⟩ fun le=>by
  refine⟨xs.take (m*sz),by simp only[cx,F0];rw[nM];exact key.1,fun el nJ=>qe el (List.mem_of_mem_take nJ),fun k el hk j x hx=>?_,.lt (R3 oR)⟩
  rw[List.getElem?_take]at hk
  split at hk
  ·rename_i sc
   obtain⟨z,hz,hi⟩:=oT k el hk j x hx
   refine⟨z,?_,hi.mono le.heap le.U⟩
   rw[List.getElem?_take,if_pos,hz]
   have hj:j<sz:=by rw[←qe el (List.mem_of_getElem? hk)];exact(List.getElem?_eq_some_iff.1 hx).1
   have:(k+1)*sz≤m*sz:=Nat.mul_le_mul_right _ sc
   rw[Nat.add_mul,Nat.one_mul]at this
   omega
  ·cases hk
 refine⟨_,ht.size,ht.defers,ht.fr,fun s x hs=>?_,ht.owns,ht.apart,ht.mine,ht.X,ht.base⟩
 simp only[St.put,E8]at hs
 by_cases ed:d=s
 ·subst ed
  rw[if_pos rfl]at hs
  cases hs
  rw[hy]
  refine .row _ _ _ _ nt fun e' nQ v2 l2 nv=>?_
  simp only[cx,St.put,St.set,G5,if_pos]at nv
  cases nv
  exact⟨Nat.le_refl _,fun _=>⟨nM,by simp[cx,F0]⟩⟩
 ·rw[if_neg ed]at hs
  exact ht.slots s x hs
end rules
end Go.Av
