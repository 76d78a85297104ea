/- Rows within rows of one's own. -/
import Derived.Test.YtiphlhoclaogjaaGreatDoorQE3
set_option linter.unusedSimpArgs false
set_option linter.unusedVariables false
set_option linter.unnecessarySimpa false
set_option maxHeartbeats 64000000
namespace Go.Av
open Go Go.RowKit
section ghost
variable {E:Env} {n:Nat} {θ:Th} {σ:St} {a:Act} {w:World}
def Hr(θ:Th)(i:Nat)(M:Nat→Option Nat):Th:=⟨θ.v,fun j=>if j=i then M else θ.N j⟩
theorem bf(θ:Th)(i:Nat)(M:Nat→Option Nat):(Hr θ i M).N i=M:=by simp[Hr]
theorem Np(θ:Th){i j:Nat}(M:Nat→Option Nat)(h:j≠i):(Hr θ i M).N j=θ.N j:=by simp[Hr,h]
theorem J6.reN(h:J6 E n θ σ a w)(i:Nat)(hni:∀b,A5 σ.hp i=some b→U6 b=false)(M:Nat→Option Nat):J6 E n (Hr θ i M) σ a w:=by
 have yw:∀{j:Nat} {b:D3} {k:Nat},A5 σ.hp j=some b→(FP (Hr θ i M) j b k↔FP θ j b k):=fun {j b k} hj=>by
  unfold FP
  by_cases e:j=i
  ·subst e
   rw[hni b hj]
   simp[Hr]
  ·rw[Np _ _ e]
   rfl
 have le:(cx E θ σ w).le (cx E (Hr θ i M) σ w):=⟨Nat.le_refl _,fun j hj=>.inl rfl,fun j hj e' ni v' l' hl=>⟨e',v',l',hl,.inr ⟨rfl,rfl,rfl⟩⟩,Nat.le_refl _,fun _ _ _=>rfl,fun k hk hu=>by
  rcases hu with hu|⟨j,b,hj,oT⟩
  ·exact .inl hu
  ·exact .inr ⟨j,b,hj,(yw hj).1 oT⟩⟩
 refine⟨h.size,h.defers,h.fr,fun s x hs=>(h.slots s x hs).mono le,fun j b hj=>⟨(h.owns j b hj).1,?_⟩,fun j1 j2 b1 b2 k h1 h2 qA nr=>h.apart j1 j2 b1 b2 k h1 h2 ((yw h1).1 qA) ((yw h2).1 nr),fun j b k hj hk=>h.mine j b k hj ((yw hj).1 hk),h.X,h.base⟩
 by_cases e:j=i
 ·subst e
  have ho:=(h.owns j b hj).2
  have wc:=hni b hj
  cases b with
  |bx τ l=>exact ho.mono (c':=cx E θ σ w) ⟨Nat.le_refl _,fun j hj=>.inl rfl,fun j hj e' ni v' l' hl=>⟨e',v',l',hl,.inr ⟨rfl,rfl,rfl⟩⟩,Nat.le_refl _,fun _ _ _=>rfl,fun _ _ hu=>hu⟩ rfl (fun _=>rfl) (fun _ _=>rfl) |> fun ⟨b',oG,ty,q1,q2,q3,q4⟩=>⟨b',oG,ty,q1,q2,q3,fun j x y hx hy=>(q4 j x y hx hy).mono le⟩
  |row e1 sz1 v1 l1 =>
   obtain⟨xs,q1,q2,q3,q4⟩:=ho
   refine⟨xs,q1,q2,fun k el hk j x hx=>?_,fun hE=>?_⟩
   ·obtain⟨y,hy,hi⟩:=q3 k el hk j x hx
    exact⟨y,hy,hi.mono le.heap le.U⟩
   ·have:U6 (.row e1 sz1 v1 l1)=true:=Nat.ble_eq▸hE
    rw[wc]at this;cases this
  |map m =>
   obtain⟨r,es,clock,q1,q2,q3,q4⟩:=ho
   exact⟨r,es,clock,q1,q2,q3,fun j kx e hx he=>⟨(q4 j kx e hx he).1,(q4 j kx e hx he).2.mono le.heap le.U⟩⟩
  |it s p=>exact ho
 ·exact(h.owns j b hj).2.mono le rfl (fun k=>congrFun (Np θ M e) k) fun _ _=>rfl
def Yk(x:AV):AV→Prop
 |.own e _ l=>x=.v (.slice none 0 0)∧l=[]∧e<J5
 |y=>x=y
def FN:List AV→List AV→Prop
 |[],[]=>True
 |a::r,b::s=>Yk a b∧FN r s
 |_,_=>False
theorem FN.len:∀{l m:List AV},FN l m→l.length=m.length
 |[],[],_=>rfl
 |_::_,_::_,h=>congrArg (·+1) h.2.len
theorem FN.get:∀{l m:List AV},FN l m→∀(j:Nat) y,m[j]?=some y→∃x,l[j]?=some x∧Yk x y
 |[],[],_,j,y,h=>by simp at h
 |a::r,b::s,h,j,y,hj=>by
  cases j with
  |zero=>simp at hj;subst hj;exact⟨a,rfl,h.1⟩
  |succ j=>simpa using h.2.get j y (by simpa using hj)
def Tm(l m:List (List AV)):Prop:=l.length=m.length∧∀(k:Nat) b,m[k]?=some b→∃a,l[k]?=some a∧FN a b
theorem Yl{α:Type}{f g:α→List AV}{l:List α}(h:∀x∈l,FN (f x) (g x)):Tm (l.map f) (l.map g):=by
 refine⟨by simp,fun k b hb=>?_⟩
 rw[List.getElem?_map,Option.map_eq_some_iff]at hb
 obtain⟨x,hx,rfl⟩:=hb
 exact⟨f x,by rw[List.getElem?_map,hx];rfl,h x (List.mem_of_getElem? hx)⟩
def Fo(F:Nat):Prop:=F=K2∨F=T0
theorem Fo.le{F e:Nat}(h:Fo F):K2≤F+e:=by rcases h with rfl|rfl<;>(try unfold T0 K2)<;>omega
theorem Fo.cell{F e:Nat}(h:Fo F)(he:e<J5):RL (F+e)=e:=by
 rcases h with rfl|rfl
 ·unfold RL
  rw[XX (by unfold J5 at he;unfold K2;omega),Bool.cond_false,Ma (Nat.le_add_right _ _),Bool.cond_true,Nat.add_sub_cancel_left]
 ·unfold RL
  rw[Ma (by unfold T0;omega),Bool.cond_true]
  unfold T0;omega
theorem Ym{e:Nat}(he:e<J5):a9 (K2+e)=false:=by
 cases hb:a9 (K2+e)with
 |false=>rfl
 |true =>
  simp only[a9,Bool.or_eq_true,Bool.and_eq_true,Nat.ble_eq,Nat.blt_eq]at hb
  unfold J5 at he;unfold L0 K2 t8 T0 at hb;omega
theorem L9.to_nest{w:World}{g e F:Nat}{nj:Array Value}(h:L9 w g nj e)(he:e<J5)(hF:Fo F):L9 w g nj (F+e):=by
 refine .inr (.inr (.inl ⟨by have:=hF.le (e:=e);unfold K2 at this;unfold L0;omega,Gx hF.le,?_⟩))
 rw[hF.cell he]
 rcases h with ⟨_,h⟩|⟨h,_⟩|⟨h,_⟩|⟨h,_⟩
 ·exact h
 ·omega
 ·unfold J5 at he;unfold L0 at h;omega
 ·rw[Gw (k0 he)]at h;cases h
theorem L9.of_nest{w:World}{g e F:Nat}{nj:Array Value}(h:L9 w g nj (F+e))(he:e<J5)(hF:Fo F):L9 w g nj e:=by
 have:=hF.le (e:=e)
 refine .inl ⟨by unfold J5 at he;unfold L0;omega,?_⟩
 rcases h with ⟨h,_⟩|⟨_,h,_⟩|⟨_,_,h⟩|⟨h,_⟩
 ·unfold K2 at this;unfold L0 at h;omega
 ·unfold K2 at this;unfold L0 at h;omega
 ·rwa[hF.cell he]at h
 ·rw[Gx this]at h;cases h
theorem Wl{i e sz v F:Nat}{l l':List (List AV)}(hF:Fo F)(hb:A5 σ.hp i=some (.row e sz v l))(hi:F=T0→E.n0≤i)(he:e<J5)(hl:Tm l l'):St.le E n σ (σ.set i (.row (F+e) sz v l')):=by
 rintro a w ⟨θ,h0⟩
 have h:=h0.reN i (fun b oD=>by rw[hb]at oD;cases oD;exact N2 (Q3 he)) (fun _=>none)
 have pW:=hb
 obtain⟨_,xs,ho,hsz,oc,_⟩:=h.owns i _ hb
 generalize hθ:Hr θ i (fun _=>none)=θ1 at h ho oc
 have hN:∀k,θ1.N i k=none:=fun k=>by rw[←hθ,bf]
 have rQ:∃x m c,θ1 i=.slice x m c:=by
  rcases ho.2 with ⟨h1,_⟩|⟨g,cap,nj,h1,_⟩<;>exact⟨_,_,_,h1⟩
 have sJ:R7 w (F+e) sz (θ1 i) l'.length xs:=by
  rw[←hl.1]
  exact⟨ho.1,ho.2.imp id fun ⟨g,cap,nj,h1,h2,h3,r⟩=>⟨g,cap,nj,h1,.ge hF.le,h3.to_nest he hF,r⟩⟩
 have ht:=h.turn (v':=θ1 i) (b':=.row (F+e) sz v l') (w':=w) (hkp:=fun e2 pO v2 l2 h1 h2 h3=>by
  cases h1
  rcases hF with rfl|rfl
  ·rw[Ym he]at h2;cases h2
  ·exact absurd (hi rfl) (by omega)) (hne:=fun _=>.inr hN) hb rfl rfl rfl (Nat.le_refl _) (fun _ _ _=>rfl) (fun k hk=>.inl hk) ⟨rQ,e,v,l,rfl,.inr ⟨rfl,hl.1,rfl⟩⟩ fun le=>by
  refine⟨xs,by simp only[cx,E7];exact sJ,fun el nX=>?_,fun k el hk j x hx=>?_,fun _=>⟨fun k p hk=>?_,fun k el hk j e' ni m hj=>?_⟩⟩
  ·obtain⟨k,hk⟩:=List.mem_iff_getElem?.1 nX
   obtain⟨a0,ha,hn⟩:=hl.2 k el hk
   rw[←hn.len];exact hsz a0 (List.mem_of_getElem? ha)
  ·obtain⟨a0,ha,hn⟩:=hl.2 k el hk
   obtain⟨x0,po,h1⟩:=hn.get j x hx
   obtain⟨y,hy,hz⟩:=oc k a0 ha j x0 po
   refine⟨y,hy,?_⟩
   cases x with
   |own e' ni m=>exact .own e' ni m y
   |_=>simp only[Yk]at h1;subst h1;exact hz.mono le.heap le.U
  ·have oT:θ1.N i k=some p:=hk
   rw[hN k]at oT;cases oT
  ·obtain⟨a0,ha,hn⟩:=hl.2 k el hk
   obtain⟨x0,po,rfl,rfl,qu⟩:=hn.get j _ hj
   obtain⟨y,hy,hz⟩:=oc k a0 ha j _ po
   cases hz
   rcases ho.2 with ⟨_,vh⟩|⟨g,cap,nj,h1,h2,h3,h4⟩
   ·rw[List.eq_nil_of_length_eq_zero vh]at ha;simp at ha
   ·have nh:=ho
    have oK:θ1 i=.slice (some ⟨g,0,none⟩) l.length cap:=h1
    rw[show (cx E θ1 σ w).θ i=θ1 i from rfl,oK]at nh
    have oX:=nh.cells (g:=g) rfl _ _ hy
    rw[H3,Nat.zero_add]at oX
    exact⟨g,l.length,cap,.slice none 0 0,[],by simp only[cx,E7];exact oK,oX,⟨by simp,.inl ⟨rfl,rfl⟩⟩,qu,(fun el nX=>by cases nX),(fun q pD hq=>by simp at hq),fun b hb=>by cases hb⟩
 exact⟨_,ht⟩
def PC:AV→AV
 |.own _ sz l=>.sl sz l
 |x=>x
theorem QY{i e sz v F:Nat}{l l':List (List AV)}(hF:Fo F)(hb:A5 σ.hp i=some (.row (F+e) sz v l))(he:e<J5)(hl:l'=l.map (·.map PC)):St.le E n σ (σ.set i (.row e sz v l')):=by
 subst hl
 rintro a w ⟨θ,h⟩
 obtain⟨oH,xs,ho,hsz,oc,hne⟩:=h.owns i _ hb
 have hE:=hF.le (e:=e)
 have hN:U6 (.row (F+e) sz v l)=true:=Ma hE
 have rQ:∃x m c,θ i=.slice x m c:=by
  rcases ho.2 with ⟨h1,_⟩|⟨g,cap,nj,h1,_⟩<;>exact⟨_,_,_,h1⟩
 have sJ:R7 w e sz (θ i) (l.map (·.map PC)).length xs:=by
  rw[List.length_map]
  exact⟨ho.1,ho.2.imp id fun ⟨g,cap,nj,h1,h2,h3,r⟩=>⟨g,cap,nj,h1,.lt (k0 he),h3.of_nest he hF,r⟩⟩
 have ht:=h.turn (v':=θ i) (b':=.row e sz v (l.map (·.map PC))) (w':=w) (hkp:=fun e2 pO v2 l2 h1 h2 h3=>by
  cases h1
  rw[Gy he]at h2;cases h2) (hne:=fun h=>by rw[N2 (Q3 he)]at h;cases h) hb rfl rfl rfl (Nat.le_refl _) (fun _ _ _=>rfl) (fun k hk=>.inl hk) ⟨rQ,F+e,v,l,rfl,.inr ⟨rfl,by simp,rfl⟩⟩ fun le=>by
  refine⟨xs,by simp only[cx,E7];exact sJ,fun el nX=>?_,fun k el hk j x hx=>?_,.lt (Q3 he)⟩
  ·obtain⟨e0,yB,rfl⟩:=List.mem_map.1 nX
   rw[List.length_map];exact hsz e0 yB
  ·rw[List.getElem?_map,Option.map_eq_some_iff]at hk
   obtain⟨rY,rE,rfl⟩:=hk
   rw[List.getElem?_map,Option.map_eq_some_iff]at hx
   obtain⟨x0,po,rfl⟩:=hx
   obtain⟨y,hy,hz⟩:=oc k rY rE j x0 po
   refine⟨y,hy,?_⟩
   cases x0 with
   |own e' ni m =>
    obtain⟨g,m',cap,y',ys,q1,q2,q3,q4,q5,q6,q7⟩:=(hne hE).2 k rY rE j e' ni m po
    have nh:=ho
    have yA:θ i=.slice (some ⟨g,0,none⟩) m' cap:=q1
    rw[show (cx E θ σ w).θ i=θ i from rfl,yA]at nh
    have oX:=nh.cells (g:=g) rfl _ _ hy
    rw[H3,Nat.zero_add]at oX
    rw[oX]at q2
    cases q2
    simp only[PC]
    rcases q3.2 with ⟨h1,h2⟩|⟨g2,rk,tG,h1,_,h3,h4,h5,h6,h7⟩
    ·rw[h1,List.eq_nil_of_length_eq_zero h2];exact .slnil ni
    ·have q3':=q3
     rw[h1]at q3' ⊢
     obtain⟨uB,hNg⟩:=q7 g2 (by rw[h1];rfl)
     have xv:¬(cx E (upd θ i (θ i)) (σ.set i (.row e sz v (l.map (·.map PC)))) w).U g2:=by
      rintro (hx|⟨j2,b2,qU,nr⟩)
      ·exact(h.mine i _ g2 hb (.inr ⟨hN,_,hNg⟩)).1 hx
      ·simp only[cx,St.set,F7]at qU
       by_cases e2:i=j2
       ·subst e2
        rw[if_pos rfl]at qU
        cases qU
        rcases nr with nr|⟨nr,_⟩
        ·simp only[cx,E7]at nr
         rw[yA]at nr
         simp[fp]at nr
         exact uB nr.symm
        ·rw[N2 (Q3 he)]at nr;cases nr
       ·rw[if_neg e2]at qU
        refine e2 (h.apart i j2 _ b2 g2 hb qU (.inr ⟨hN,_,hNg⟩) ?_)
        unfold FP at nr ⊢
        simpa only[cx,O0 _ _ (Ne.symm e2),MZ]using nr
     have oy:∀i,i<m.length→∀j,j<ni→∃y,ys[i*ni+j]?=some y:=by
      intro i hi j hj
      have h1:(i+1)*ni≤m.length*ni:=Nat.mul_le_mul_right _ hi
      rw[Nat.add_mul,Nat.one_mul]at h1
      have h2:i*ni+j<ys.length:=by rw[q3.1];omega
      exact⟨_,List.getElem?_eq_getElem h2⟩
     refine .sl ni m ⟨g2,0,none⟩ rk (fun i j=>ys.getD (i*ni+j) undef) h4 h5 (fun _ _=>xv) q5 (fun i hi j hj=>?_) (fun k el hk j x hx=>?_)
     ·obtain⟨y,hy⟩:=oy i hi j hj
      have:=q3'.cells (g:=g2) rfl _ _ hy
      rw[H3]
      have e:ys.getD (i*ni+j) undef=y:=by rw[List.getD,hy];rfl
      rw[e]
      show w.cell? _=_
      have this:w.cell? _=_:=this
      simpa [H3]using this
     ·obtain⟨y,hy,oc⟩:=q6 k el hk j x hx
      have e:ys.getD (k*ni+j) undef=y:=by rw[List.getD,hy];rfl
      rw[e]
      exact oc.mono le.heap le.U
   |_=>exact hz.mono le.heap le.U
 exact⟨_,ht⟩
theorem J6.take{i ver k off e sz e' ni:Nat}{l m:List (List AV)}{el:List AV}(h:J6 E n θ σ a w)(hb:A5 σ.hp i=some (.row e sz ver l))(hE:K2≤e)(hk:l[k]?=some el)(yf:el[off]?=some (.own e' ni m)):
  ∃g n' cap y θ',θ i=.slice (some ⟨g,0,none⟩) n' cap∧w.cell? ⟨g,k*sz+off,none⟩=some y∧θ' σ.nx=y ∧
   J6 E n θ' ⟨σ.sl,σ.nx+1,(σ.nx,some (.row e' ni 0 m))::(i,some (.row e sz ver (l.set k (el.set off .any))))::σ.hp⟩ a w:=by
 obtain⟨oH,xs,ho,hsz,oc,hne⟩:=h.owns i _ hb
 obtain⟨wG,vT⟩:=hne hE
 obtain⟨g,n',cap,y,ys,q1,q2,q3,q4,q5,q6,q7⟩:=vT k el hk off e' ni m yf
 have yA:θ i=.slice (some ⟨g,0,none⟩) n' cap:=q1
 have no:k<l.length:=(List.getElem?_eq_some_iff.1 hk).1
 have pU:off<sz:=by rw[←hsz el (List.mem_of_getElem? hk)];exact(List.getElem?_eq_some_iff.1 yf).1
 have hN:U6 (.row e sz ver l)=true:=Ma hE
 let θ':Th:=⟨fun j=>if j=σ.nx then y else θ j,fun j b=>if j=i then (if fp y=some b then none else θ.N i b)else θ.N j b⟩
 let b1:D3:=.row e' ni 0 m
 let b2:D3:=.row e sz ver (l.set k (el.set off .any))
 let σ':St:=⟨σ.sl,σ.nx+1,(σ.nx,some b1)::(i,some b2)::σ.hp⟩
 have tF:i<σ.nx:=oH
 have nq:∀j,A5 σ'.hp j=if σ.nx=j then some b1 else if i=j then some b2 else A5 σ.hp j:=fun j=>by simp only[σ',F7]
 have ue:∀j,j<σ.nx→θ' j=θ j:=fun j hj=>by simp only[θ',if_neg (Nat.ne_of_lt hj)]
 have zM:θ' σ.nx=y:=by simp only[θ',if_pos]
 have hNi:∀b p,θ'.N i b=some p→θ.N i b=some p:=fun b p hp=>by
  simp only[θ',if_pos]at hp
  split at hp
  ·cases hp
  ·exact hp
 have wg:∀j,j≠i→θ'.N j=θ.N j:=fun j hj=>by simp only[θ',if_neg hj]
 -- the blocks under the new names
 have ye:∀{q:Nat},FP θ' σ.nx b1 q→fp y=some q:=fun hq=>by
  rcases hq with hq|⟨hq,_⟩
  ·rwa[zM]at hq
  ·have:U6 b1=false:=N2 (Q3 q4)
   rw[this]at hq;cases hq
 have ud:∀{q:Nat},fp y=some q→FP θ i (.row e sz ver l) q:=fun hq=>.inr ⟨hN,_,(q7 _ hq).2⟩
 have tq:∀{q:Nat},FP θ' i b2 q→FP θ i (.row e sz ver l) q∧fp y≠some q:=fun {q} hq=>by
  rcases hq with hq|⟨_,p,hp⟩
  ·rw[ue i tF]at hq
   refine⟨.inl hq,fun hy=>(q7 q hy).1 ?_⟩
   rw[yA]at hq
   simp[fp]at hq
   exact hq.symm
  ·refine⟨.inr ⟨hN,p,hNi q p hp⟩,fun hy=>?_⟩
   simp only[θ',if_pos,hy]at hp
   cases hp
 have rl:∀{j:Nat} {b:D3} {q:Nat},j≠i→j<σ.nx→FP θ' j b q→FP θ j b q:=fun hj nf hq=>by
  unfold FP at hq ⊢
  rwa[ue _ nf,wg _ hj]at hq
 have le:(cx E θ σ w).le (cx E θ' σ' w):=by
  refine⟨Nat.le_succ _,fun j hj=>.inl (ue j hj),fun j hj e2 pO v2 l2 hl=>?_,Nat.le_refl _,fun _ _ _=>rfl,fun q _ hu=>?_⟩
  ·have ny:j<σ.nx:=hj
   have oL:A5 σ'.hp j=some (.row e2 pO v2 l2):=hl
   rw[nq,if_neg (by omega)]at oL
   by_cases ei:i=j
   ·subst ei
    rw[if_pos rfl]at oL
    have oL:some (D3.row e sz ver (l.set k (el.set off .any)))=some (.row e2 pO v2 l2):=oL
    cases oL
    exact⟨e,ver,l,hb,.inr ⟨rfl,by simp,ue i tF⟩⟩
   ·rw[if_neg ei]at oL
    exact⟨e2,v2,l2,oL,.inr ⟨rfl,rfl,ue j ny⟩⟩
  ·rcases hu with hu|⟨j,b,hj,hq⟩
   ·exact .inl hu
   ·have ny:A5 σ'.hp j=some b:=hj
    rw[nq]at ny
    by_cases en:σ.nx=j
    ·subst en
     rw[if_pos rfl]at ny
     cases ny
     exact .inr ⟨i,_,hb,ud (ye hq)⟩
    ·rw[if_neg en]at ny
     by_cases ei:i=j
     ·subst ei
      rw[if_pos rfl]at ny
      cases ny
      exact .inr ⟨i,_,hb,(tq hq).1⟩
     ·rw[if_neg ei]at ny
      exact .inr ⟨j,b,ny,rl (Ne.symm ei) (h.owns j b ny).1 hq⟩
 refine⟨g,n',cap,y,θ',yA,q2,zM,h.size,h.defers,h.fr,fun s x hs=>(h.slots s x hs).mono le,fun j b hj=>?_,fun j1 j2 c1 c2 q h1 h2 sn pI=>?_,fun j b q hj hq=>?_,h.X,⟨Nat.le_succ_of_le h.base.1,fun j hj=>?_⟩⟩
 ·have ny:A5 σ'.hp j=some b:=hj
  rw[nq]at ny
  by_cases en:σ.nx=j
  ·subst en
   rw[if_pos rfl]at ny
   cases ny
   refine⟨Nat.lt_succ_self _,ys,?_,q5,fun k el hk j x hx=>?_,.lt (Q3 q4)⟩
   ·show R7 w e' ni (θ' σ.nx) m.length ys
    rw[zM];exact q3
   ·obtain⟨z,hz,hi⟩:=q6 k el hk j x hx
    exact⟨z,hz,hi.mono le.heap le.U⟩
  ·rw[if_neg en]at ny
   by_cases ei:i=j
   ·subst ei
    rw[if_pos rfl]at ny
    cases ny
    refine⟨Nat.lt_succ_of_lt tF,xs,?_,fun tO rz=>?_,fun k2 tO nr j2 x2 qc=>?_,fun _=>⟨fun b p hp=>wG b p (hNi b p hp),fun k2 tO nr j2 e2 pO m2 qU=>?_⟩⟩
    ·show R7 w e sz (θ' i) _ xs
     rw[ue i tF,List.length_set];exact ho
    ·rcases List.mem_or_eq_of_mem_set rz with h2|h2
     ·exact hsz _ h2
     ·rw[h2,List.length_set];exact hsz el (List.mem_of_getElem? hk)
    ·by_cases ek:k=k2
     ·subst ek
      rw[List.getElem?_set_self no]at nr
      cases nr
      by_cases ej:off=j2
      ·subst ej
       obtain⟨z,hz,hi⟩:=oc k el hk off _ yf
       have nf:off<el.length:=(List.getElem?_eq_some_iff.1 yf).1
       rw[List.getElem?_set_self nf]at qc
       cases qc
       exact⟨z,hz,.any _⟩
      ·rw[List.getElem?_set_ne ej]at qc
       obtain⟨z,hz,hi⟩:=oc k el hk j2 x2 qc
       exact⟨z,hz,hi.mono le.heap le.U⟩
     ·rw[List.getElem?_set_ne ek]at nr
      obtain⟨z,hz,hi⟩:=oc k2 tO nr j2 x2 qc
      exact⟨z,hz,hi.mono le.heap le.U⟩
    ·obtain⟨rY,g1,g2,g3⟩:=WD (P:=fun q=>q≠k*sz+off) hk hsz pU (av:=.any) rfl (fun q hq=>hq) k2 tO nr j2 e2 pO m2 qU
     obtain⟨g',n2,rk,y2,zy,r1,r2,r3,r4,r5,r6,r7⟩:=vT k2 rY g1 j2 e2 pO m2 g2
     refine⟨g',n2,rk,y2,zy,(ue i tF).trans r1,r2,r3,r4,r5,fun q pD hq j' x hx=>?_,fun b oD=>⟨(r7 b oD).1,?_⟩⟩
     ·obtain⟨z,hz,hi⟩:=r6 q pD hq j' x hx
      exact⟨z,hz,hi.mono le.heap le.U⟩
     ·show θ'.N i b=_
      have h3:=(r7 b oD).2
      have vr:fp y≠some b:=fun hy=>by
       have h4:=(q7 b hy).2
       rw[h4]at h3
       exact g3 (Option.some.inj h3).symm
      simp only[θ',if_pos,if_neg vr]
      exact h3
   ·rw[if_neg ei]at ny
    obtain⟨h1,h2⟩:=h.owns j b ny
    exact⟨Nat.lt_succ_of_lt h1,h2.mono le (ue j h1) (fun q=>congrFun (wg j (Ne.symm ei)) q) fun _ _=>rfl⟩
 ·have oK:A5 σ'.hp j1=some c1:=h1
  have oS:A5 σ'.hp j2=some c2:=h2
  rw[nq]at oK oS
  by_cases n1:σ.nx=j1<;>by_cases n2:σ.nx=j2
  ·omega
  ·subst n1
   rw[if_pos rfl]at oK
   rw[if_neg n2]at oS
   cases oK
   have hy:=ye sn
   by_cases ei:i=j2
   ·subst ei
    rw[if_pos rfl]at oS
    cases oS
    exact absurd hy (tq pI).2
   ·rw[if_neg ei]at oS
    exact absurd (h.apart i j2 _ c2 q hb oS (ud hy) (rl (Ne.symm ei) (h.owns j2 c2 oS).1 pI)) ei
  ·subst n2
   rw[if_pos rfl]at oS
   rw[if_neg n1]at oK
   cases oS
   have hy:=ye pI
   by_cases ei:i=j1
   ·subst ei
    rw[if_pos rfl]at oK
    cases oK
    exact absurd hy (tq sn).2
   ·rw[if_neg ei]at oK
    exact absurd (h.apart i j1 _ c1 q hb oK (ud hy) (rl (Ne.symm ei) (h.owns j1 c1 oK).1 sn)) ei
  ·rw[if_neg n1]at oK
   rw[if_neg n2]at oS
   by_cases e1:i=j1<;>by_cases e2:i=j2
   ·omega
   ·subst e1
    rw[if_pos rfl]at oK
    rw[if_neg e2]at oS
    cases oK
    exact h.apart i j2 _ c2 q hb oS (tq sn).1 (rl (Ne.symm e2) (h.owns j2 c2 oS).1 pI)
   ·subst e2
    rw[if_pos rfl]at oS
    rw[if_neg e1]at oK
    cases oS
    exact h.apart j1 i c1 _ q oK hb (rl (Ne.symm e1) (h.owns j1 c1 oK).1 sn) (tq pI).1
   ·rw[if_neg e1]at oK
    rw[if_neg e2]at oS
    exact h.apart j1 j2 c1 c2 q oK oS (rl (Ne.symm e1) (h.owns j1 c1 oK).1 sn) (rl (Ne.symm e2) (h.owns j2 c2 oS).1 pI)
 ·have ny:A5 σ'.hp j=some b:=hj
  rw[nq]at ny
  by_cases en:σ.nx=j
  ·subst en
   rw[if_pos rfl]at ny
   cases ny
   exact h.mine i _ q hb (ud (ye hq))
  ·rw[if_neg en]at ny
   by_cases ei:i=j
   ·subst ei
    rw[if_pos rfl]at ny
    cases ny
    exact h.mine i _ q hb (tq hq).1
   ·rw[if_neg ei]at ny
    exact h.mine j b q ny (rl (Ne.symm ei) (h.owns j b ny).1 hq)
 ·have vh:=h.base.1
  rw[ue j (by omega)]
  refine(h.base.2 j hj).imp id fun ⟨h1,h2⟩=>⟨h1,fun ⟨e2,pO,v2,l2,hl,pK⟩=>h2 ?_⟩
  have oL:A5 σ'.hp j=some (.row e2 pO v2 l2):=hl
  rw[nq,if_neg (by omega)]at oL
  by_cases ei:i=j
  ·subst ei
   rw[if_pos rfl]at oL
   have oL:some (D3.row e sz ver (l.set k (el.set off .any)))=some (.row e2 pO v2 l2):=oL
   cases oL
   exact⟨_,_,_,_,hb,pK⟩
  ·rw[if_neg ei]at oL
   exact⟨_,_,_,_,oL,pK⟩
theorem J6.give{i ver k off e sz e' ni m vm g n' cap:Nat}{l l2:List (List AV)}{el:List AV}{w':World}{nj:Array Value}(h:J6 E n θ σ a w)(hb:A5 σ.hp i=some (.row e sz ver l))(hE:K2≤e)(hk:l[k]?=some el)(pU:off<sz)
  (hm:A5 σ.hp m=some (.row e' ni vm l2)) (qu:e'<J5) (tX:m≠i) (hθ:θ i=.slice (some ⟨g,0,none⟩) n' cap) (hg:L9 w g nj e) (rq:k*sz+off<l.length*sz) (hw:w'=w.setRow g (nj.setIfInBounds (k*sz+off) (θ m))) :
  ∃θ',J6 E n θ' ⟨σ.sl,σ.nx,(m,none)::(i,some (.row e sz ver (l.set k (el.set off (.own e' ni l2)))))::σ.hp⟩ a w':=by
 obtain⟨oH,xs,ho,hsz,oc,hne⟩:=h.owns i _ hb
 obtain⟨pZ,ys,wr,vw,AB0,_⟩:=h.owns m _ hm
 obtain⟨wG,vT⟩:=hne hE
 have no:k<l.length:=(List.getElem?_eq_some_iff.1 hk).1
 have hN:U6 (.row e sz ver l)=true:=Ma hE
 have sS:w'.os=w.os:=by rw[hw];rfl
 have np:w'.heap.size=w.heap.size:=by rw[hw];simp
 have hh:∀q,q≠g→w'.heap[q]?=w.heap[q]?:=fun q hq=>by rw[hw];exact setRow_other w g q _ hq
 have oz:∀q,q≠k*sz+off→w'.cell? ⟨g,q,none⟩=w.cell? ⟨g,q,none⟩:=fun q hq=>by rw[hw];exact SA hg q hq
 let P0:=k*sz+off
 let θ':Th:=⟨θ.v,fun j b=>if j=i then (if fp (θ m)=some b then some P0 else θ.N i b)else θ.N j b⟩
 let b2:D3:=.row e sz ver (l.set k (el.set off (.own e' ni l2)))
 let σ':St:=⟨σ.sl,σ.nx,(m,none)::(i,some b2)::σ.hp⟩
 have nq:∀j,A5 σ'.hp j=if m=j then none else if i=j then some b2 else A5 σ.hp j:=fun j=>by simp only[σ',F7]
 have wg:∀j,j≠i→θ'.N j=θ.N j:=fun j hj=>by simp only[θ',if_neg hj]
 have hmb:U6 (.row e' ni vm l2)=false:=N2 (Q3 qu)
 have tq:∀{q:Nat},FP θ' i b2 q→FP θ i (.row e sz ver l) q∨fp (θ m)=some q:=fun {q} hq=>by
  rcases hq with hq|⟨_,p,hp⟩
  ·exact .inl (.inl hq)
  ·simp only[θ',if_pos]at hp
   split at hp
   ·rename_i hq;exact .inr hq
   ·exact .inl (.inr ⟨hN,p,hp⟩)
 have rl:∀{j:Nat} {b:D3} {q:Nat},j≠i→FP θ' j b q→FP θ j b q:=fun hj hq=>by
  unfold FP at hq ⊢
  rwa[wg _ hj]at hq
 have xN:FP θ i (.row e sz ver l) g:=.inl (by rw[hθ];rfl)
 have hgm:∀q,fp (θ m)=some q→q≠g:=fun q hq e2=>tX (h.apart m i _ _ q hm hb (.inl hq) (by rw[e2];exact xN))
 have le:(cx E θ σ w).le (cx E θ' σ' w'):=by
  refine⟨Nat.le_refl _,fun j hj=>.inl rfl,fun j hj e2 pO v2 l3 hl=>?_,by rw[show (cx E θ' σ' w').w=w' from rfl,np];exact Nat.le_refl _,fun q hq hu=>hh q fun e2=>hu (.inr ⟨i,_,hb,by rw[e2];exact xN⟩),fun q _ hu=>?_⟩
  ·have oL:A5 σ'.hp j=some (.row e2 pO v2 l3):=hl
   rw[nq]at oL
   by_cases em:m=j
   ·rw[if_pos em]at oL;cases oL
   ·rw[if_neg em]at oL
    by_cases ei:i=j
    ·subst ei
     rw[if_pos rfl]at oL
     have oL:some (D3.row e sz ver (l.set k (el.set off (.own e' ni l2))))=some (.row e2 pO v2 l3):=oL
     cases oL
     exact⟨e,ver,l,hb,.inr ⟨rfl,by simp,rfl⟩⟩
    ·rw[if_neg ei]at oL
     exact⟨e2,v2,l3,oL,.inr ⟨rfl,rfl,rfl⟩⟩
  ·rcases hu with hu|⟨j,b,hj,hq⟩
   ·exact .inl hu
   ·have ny:A5 σ'.hp j=some b:=hj
    rw[nq]at ny
    by_cases em:m=j
    ·rw[if_pos em]at ny;cases ny
    ·rw[if_neg em]at ny
     by_cases ei:i=j
     ·subst ei
      rw[if_pos rfl]at ny
      cases ny
      rcases tq hq with h1|h1
      ·exact .inr ⟨i,_,hb,h1⟩
      ·exact .inr ⟨m,_,hm,.inl h1⟩
     ·rw[if_neg ei]at ny
      exact .inr ⟨j,b,ny,rl (Ne.symm ei) hq⟩
 have zN:∀{j:Nat} {b:D3} {q:Nat},j≠i→A5 σ.hp j=some b→FP θ j b q→q≠g:=fun hji hj hq e2=>hji (h.apart _ i _ _ _ hj hb hq (by rw[e2];exact xN))
 refine⟨θ',h.size,h.defers.mono fun q hd=>hh q fun e2=>(h.owns i _ hb).2.nodf xN (e2▸hd),⟨sS.trans h.fr.os,by rw[hw];exact h.fr.tape,by rw[hw];exact h.fr.output,by rw[np];exact h.fr.size,fun q hq hO=>?_⟩,fun s x hs=>(h.slots s x hs).mono le,fun j b hj=>?_,fun j1 j2 c1 c2 q h1 h2 sn pI=>?_,fun j b q hj hq=>?_,h.X,⟨h.base.1,fun j hj=>?_⟩⟩
 ·rw[hh q fun e2=>?_]
  ·exact h.fr.block q hq hO
  ·rcases(h.mine i _ g hb xN).2 with h2|h2
   ·exact hO (e2▸h2)
   ·omega
 ·have ny:A5 σ'.hp j=some b:=hj
  rw[nq]at ny
  by_cases em:m=j
  ·rw[if_pos em]at ny;cases ny
  ·rw[if_neg em]at ny
   by_cases ei:i=j
   ·subst ei
    rw[if_pos rfl]at ny
    cases ny
    have hxs:xs[P0]?=some (xs[P0]'(by rw[ho.1];exact rq)):=List.getElem?_eq_getElem _
    refine⟨oH,xs.set P0 (θ m),?_,fun tO rz=>?_,fun k2 tO nr j2 x2 qc=>?_,fun _=>⟨fun b p hp=>?_,fun k2 tO nr j2 e2 pO m2 qU=>?_⟩⟩
    ·show R7 w' e sz (θ i) _ _
     refine⟨by rw[List.length_set,List.length_set];exact ho.1,?_⟩
     rcases ho.2 with ⟨hn,_⟩|⟨g',ot,tN,r1,r2,r3,r4,r5,r6,r7⟩
     ·rw[show (cx E θ σ w).θ i=θ i from rfl,hθ]at hn;cases hn
     ·have sX:θ i=.slice (some ⟨g',0,none⟩) l.length ot:=r1
      have eg:g'=g:=by rw[hθ]at sX;injection sX with e1 e2;injection e1 with e1;injection e1 with e1;exact e1.symm
      subst eg
      have ec:tN=nj:=by
       obtain⟨_,_,s1,_⟩:=r3.some
       obtain⟨_,_,s2,_⟩:=hg.some
       have xG:w.heap[g']?=_:=s1
       rw[s2]at xG
       injection xG with s3
       injection s3 with s3
       exact s3.symm
      subst ec
      have hg':L9 w' g' (tN.setIfInBounds (k*sz+off) (θ m)) e:=by rw[hw];exact hg.set
      exact .inr ⟨g',ot,tN.setIfInBounds (k*sz+off) (θ m),by rw[List.length_set];exact sX,.ge hE,hg',by rw[List.length_set];exact r4,r5,by simp[r6],by rw[List.length_set,Array.toList_setIfInBounds,←r7,List.take_set]⟩
    ·rcases List.mem_or_eq_of_mem_set rz with h2|h2
     ·exact hsz _ h2
     ·rw[h2,List.length_set];exact hsz el (List.mem_of_getElem? hk)
    ·obtain⟨z,hz,hR⟩:=Il (R:=fun x y=>∃y0,Im (cx E θ σ w).U w x y0∧y=y0) (v:=θ m) hk hsz ho.1 pU (fun k el hk j x hx=>by
      obtain⟨y,hy,hi⟩:=oc k el hk j x hx
      exact⟨y,hy,y,hi,rfl⟩) ⟨θ m,.own e' ni l2 _,rfl⟩ k2 tO nr j2 x2 qc
     obtain⟨y0,hi,rfl⟩:=hR
     exact⟨z,hz,hi.mono le.heap le.U⟩
    ·show CJ w' b
     have od:∀q,CJ w q→CJ w' q:=fun q hq=>by
      by_cases e2:q=g
      ·subst e2
       obtain⟨t,fz,uB,_⟩:=hg.some
       exact⟨_,t,fz,by rw[hw];exact setRow_heap w q nj _ t _ uB⟩
      ·exact hq.mono (hh q e2)
     have uC:θ'.N i b=some p:=hp
     simp only[θ',if_pos]at uC
     split at uC
     ·rename_i hq
      refine od b ?_
      rcases wr.2 with ⟨h1,_⟩|⟨q2,rk,tG,h1,_,h3,_⟩
      ·rw[show θ m=(cx E θ σ w).θ m from rfl,h1]at hq;cases hq
      ·rw[show θ m=(cx E θ σ w).θ m from rfl,h1]at hq
       simp[fp]at hq
       subst hq
       obtain⟨t,fz,h4,_⟩:=h3.some
       exact⟨_,_,_,h4⟩
     ·exact od b (wG b p uC)
    ·by_cases ek:k=k2∧off=j2
     ·obtain⟨rfl,rfl⟩:=ek
      rw[List.getElem?_set_self no]at nr
      cases nr
      have nf:off<el.length:=by rw[hsz el (List.mem_of_getElem? hk)];exact pU
      rw[List.getElem?_set_self nf]at qU
      cases qU
      refine⟨g,n',cap,θ m,ys,hθ,?_,⟨wr.1,wr.2.imp id fun ⟨p,cp,tG,r1,r2,r3,r4⟩=>⟨p,cp,tG,r1,.lt (k0 qu),r3.mono (hh p (hgm p (by rw[show θ m=(cx E θ σ w).θ m from rfl,r1];rfl))),r4⟩⟩,qu,vw,fun q pD hq j' x hx=>?_,fun b oD=>⟨hgm b oD,?_⟩⟩
      ·show w'.cell? _=_
       obtain⟨t,fz,uB,_⟩:=hg.some
       rw[hw,K1 (setRow_heap w g nj _ t _ uB)]
       have sK:k*sz+off<nj.size:=by
        rcases ho.2 with ⟨hn,_⟩|⟨g',ot,tN,r1,r2,r3,r4,r5,r6,r7⟩
        ·rw[show (cx E θ σ w).θ i=θ i from rfl,hθ]at hn;cases hn
        ·have sX:θ i=.slice (some ⟨g',0,none⟩) l.length ot:=r1
         have eg:g'=g:=by rw[hθ]at sX;injection sX with e1 e2;injection e1 with e1;injection e1 with e1;exact e1.symm
         subst eg
         obtain⟨_,_,s1,_⟩:=r3.some
         have xG:w.heap[g']?=_:=s1
         rw[uB]at xG
         injection xG with s3
         injection s3 with s3
         rw[s3,r6]
         have:=Nat.mul_le_mul_right sz r4
         omega
       simp[sK]
      ·obtain⟨z,hz,hi⟩:=AB0 q pD hq j' x hx
       exact⟨z,hz,hi.mono le.heap le.U⟩
      ·show θ'.N i b=_
       simp only[θ',if_pos,oD]
       rfl
     ·have key:∃rY,l[k2]?=some rY∧rY[j2]?=some (.own e2 pO m2)∧k2*sz+j2≠k*sz+off:=by
       by_cases e1:k=k2
       ·subst e1
        rw[List.getElem?_set_self no]at nr
        cases nr
        have e3:off≠j2:=fun e3=>ek ⟨rfl,e3⟩
        rw[List.getElem?_set_ne e3]at qU
        exact⟨el,hk,qU,by omega⟩
       ·rw[List.getElem?_set_ne e1]at nr
        have hj3:j2<sz:=by rw[←hsz tO (List.mem_of_getElem? nr)];exact(List.getElem?_eq_some_iff.1 qU).1
        exact⟨tO,nr,qU,WC hj3 pU e1⟩
      obtain⟨rY,g1,g2,g3⟩:=key
      obtain⟨g',n2,rk,y2,zy,r1,r2,r3,r4,r5,r6,r7⟩:=vT k2 rY g1 j2 e2 pO m2 g2
      have sX:θ i=.slice (some ⟨g',0,none⟩) n2 rk:=r1
      have eg:g'=g:=by rw[hθ]at sX;injection sX with e1 e2;injection e1 with e1;injection e1 with e1;exact e1.symm
      subst eg
      refine⟨g',n2,rk,y2,zy,sX,(oz _ g3).trans r2,⟨r3.1,r3.2.imp id fun ⟨p,cp,tG,s1,s2,s3,s4⟩=>⟨p,cp,tG,s1,.lt (k0 r4),s3.mono (hh p (r7 p (by rw[s1];rfl)).1),s4⟩⟩,r4,r5,fun q pD hq j' x hx=>?_,fun b oD=>⟨(r7 b oD).1,?_⟩⟩
      ·obtain⟨z,hz,hi⟩:=r6 q pD hq j' x hx
       exact⟨z,hz,hi.mono le.heap le.U⟩
      ·show θ'.N i b=_
       have h3:=(r7 b oD).2
       have vr:fp (θ m)≠some b:=fun hy=>tX (h.apart m i _ _ b hm hb (.inl hy) (.inr ⟨hN,_,h3⟩))
       simp only[θ',if_pos,if_neg vr]
       exact h3
   ·rw[if_neg ei]at ny
    obtain⟨h1,h2⟩:=h.owns j b ny
    exact⟨h1,h2.mono le rfl (fun q=>congrFun (wg j (Ne.symm ei)) q) fun q hq=>hh q (zN (Ne.symm ei) ny hq)⟩
 ·have oK:A5 σ'.hp j1=some c1:=h1
  have oS:A5 σ'.hp j2=some c2:=h2
  rw[nq]at oK oS
  by_cases n1:m=j1
  ·rw[if_pos n1]at oK;cases oK
  ·by_cases n2:m=j2
   ·rw[if_pos n2]at oS;cases oS
   ·rw[if_neg n1]at oK
    rw[if_neg n2]at oS
    by_cases e1:i=j1<;>by_cases e2:i=j2
    ·omega
    ·subst e1
     rw[if_pos rfl]at oK
     rw[if_neg e2]at oS
     cases oK
     rcases tq sn with h3|h3
     ·exact h.apart i j2 _ c2 q hb oS h3 (rl (Ne.symm e2) pI)
     ·exact absurd (h.apart m j2 _ c2 q hm oS (.inl h3) (rl (Ne.symm e2) pI)) n2
    ·subst e2
     rw[if_pos rfl]at oS
     rw[if_neg e1]at oK
     cases oS
     rcases tq pI with h3|h3
     ·exact h.apart j1 i c1 _ q oK hb (rl (Ne.symm e1) sn) h3
     ·exact absurd (h.apart m j1 _ c1 q hm oK (.inl h3) (rl (Ne.symm e1) sn)) n1
    ·rw[if_neg e1]at oK
     rw[if_neg e2]at oS
     exact h.apart j1 j2 c1 c2 q oK oS (rl (Ne.symm e1) sn) (rl (Ne.symm e2) pI)
 ·have ny:A5 σ'.hp j=some b:=hj
  rw[nq]at ny
  by_cases em:m=j
  ·rw[if_pos em]at ny;cases ny
  ·rw[if_neg em]at ny
   by_cases ei:i=j
   ·subst ei
    rw[if_pos rfl]at ny
    cases ny
    rcases tq hq with h3|h3
    ·exact h.mine i _ q hb h3
    ·exact h.mine m _ q hm (.inl h3)
   ·rw[if_neg ei]at ny
    exact h.mine j b q ny (rl (Ne.symm ei) hq)
 ·refine(h.base.2 j hj).imp id fun ⟨h1,h2⟩=>⟨h1,fun ⟨e2,pO,v2,l3,hl,pK⟩=>h2 ?_⟩
  have oL:A5 σ'.hp j=some (.row e2 pO v2 l3):=hl
  rw[nq]at oL
  by_cases em:m=j
  ·rw[if_pos em]at oL;cases oL
  ·rw[if_neg em]at oL
   by_cases ei:i=j
   ·subst ei
    rw[if_pos rfl]at oL
    have oL:some (D3.row e sz ver (l.set k (el.set off (.own e' ni l2))))=some (.row e2 pO v2 l3):=oL
    cases oL
    exact⟨_,_,_,_,hb,pK⟩
   ·rw[if_neg ei]at oL
    exact⟨_,_,_,_,oL,pK⟩
end ghost
section rules
variable {P:Program} {E:Env} {n:Nat} {ops:Array Oper} {rest:List Oper} {σ:St} {K:St→Prop} {ty:TypeId} {pos:String} {after:Array Edge} {x y:Operand}
theorem Fp{d T szT:Nat}[tv:G5 P T false szT]{i ver k off e sz e' ni:Nat}{l m:List (List AV)}{el:List AV}(hk:l[k]?=some el)(hx:F4 σ x=some (.elt i ver k off))(hb:A5 σ.hp i=some (.row e sz ver l))(hE:Nat.ble K2 e=true)(hj:el[off]?=some (.own e' ni m))(hd:Nat.blt d n=true)
  (kk:B1 P E n ops rest (St.put ⟨σ.sl,σ.nx+1,(σ.nx,some (.row e' ni 0 m))::(i,some (.row e sz ver (l.set k (el.set off .any))))::σ.hp⟩ d (.row σ.nx 0 m.length)) K):B1 P E n ops (⟨some d,.load T x,ty,pos,after,none⟩::rest) σ K:=by
 intro a w ⟨θ,hs⟩
 obtain⟨g,n',cap,hθ,hv,_⟩:=Br (hs.evT.rel hx) hb
 obtain⟨g2,n2,rk,y,θ',h1,h2,h3,h4⟩:=hs.take hb (Nat.ble_eq▸hE) hk hj
 have pB:θ i=.slice (some ⟨g,0,none⟩) n' cap:=hθ
 have eg:g2=g:=by rw[pB]at h1;injection h1 with e1 e2;injection e1 with e1;injection e1 with e1;exact e1.symm
 subst eg
 unfold wpList
 rw[if_pos (by simp[Region.wanted])]
 left
 have hex:(execOp a.eval ⟨some d,.load T x,ty,pos,after,none⟩).run P w=.ok (.value y) w:=by
  simp only[execOp,hv,Instr.loadAt,Instr.sureAddr,Sem.run_bind,Sem.run_pure,Result.andThen_ok]
  rw[z9 (P:=P) (sz:=szT) (v:=y) h2]
  rfl
 simp only[Oper.wp,hex,Oper.upon]
 refine kk _ _ ⟨_,h4.put (Nat.blt_eq▸hd) (.row _ _ _ _ (Nat.lt_succ_self _) fun e2 pO v2 l2 oM=>?_)⟩
 simp only[cx,F7,if_pos]at oM
 cases oM
 exact⟨Nat.le_refl _,fun _=>⟨rfl,h3.symm⟩⟩
theorem Fq{T szT:Nat}[tv:G5 P T false szT]{i ver k off e sz e' ni m vm len:Nat}{l l2:List (List AV)}{el:List AV}(hk:l[k]?=some el)(hx:F4 σ x=some (.elt i ver k off))(hy:F4 σ y=some (.row m vm len))(hb:A5 σ.hp i=some (.row e sz ver l))(hE:Nat.ble K2 e=true)
  (hm:A5 σ.hp m=some (.row e' ni vm l2)) (qu:Nat.blt e' J5=true) (tX:Nat.beq m i=false) (pU:Nat.blt off sz=true) (zt:szT=1)
  (kk:B1 P E n ops rest ⟨σ.sl,σ.nx,(m,none)::(i,some (.row e sz ver (l.set k (el.set off (.own e' ni l2)))))::σ.hp⟩ K):B1 P E n ops (⟨none,.store T x y,ty,pos,after,none⟩::rest) σ K:=by
 intro a w ⟨θ,hs⟩
 obtain⟨g,n',cap,hθ,hv,_⟩:=Br (hs.evT.rel hx) hb
 obtain⟨_,yL,_⟩:=q8 (hs.evT.rel hy) hm
 obtain⟨xs,nh,hsz,hr⟩:=hs.evT.row hb
 have pB:θ i=.slice (some ⟨g,0,none⟩) n' cap:=hθ
 have xn:a.eval y=θ m:=yL
 have no:k<l.length:=(List.getElem?_eq_some_iff.1 hk).1
 have ho:=Nat.blt_eq▸pU
 have rG:k*sz+off<l.length*sz:=by
  have:(k+1)*sz≤l.length*sz:=Nat.mul_le_mul_right _ no
  rw[Nat.add_mul,Nat.one_mul]at this
  omega
 rcases nh.2 with ⟨hn,_⟩|⟨g',ot,nj,r1,r2,r3,r4,r5,r6,r7⟩
 ·rw[pB]at hn;cases hn
 ·have sX:θ i=.slice (some ⟨g',0,none⟩) l.length ot:=r1
  have eg:g'=g:=by rw[pB]at sX;injection sX with e1 e2;injection e1 with e1;injection e1 with e1;exact e1.symm
  subst eg
  obtain⟨xm,wr,_⟩:=hs.evT.row hm
  have xX:(a.eval y).oneCell'=true:=by
   rw[xn]
   rcases wr.2 with ⟨h1,_⟩|⟨_,_,_,h1,_⟩<;>rw[h1]<;>rfl
  have oY:=Nat.mul_le_mul_right sz r4
  have oI:=IU (P:=P) (T:=T) (ag:=false) (sz:=szT) (v:=a.eval y) xX (Et xX) zt r3 (Gx (Nat.ble_eq▸hE)) (off:=k*sz+off) (by omega)
  unfold wpList
  rw[if_pos (by simp[Region.wanted])]
  left
  have hex:=GA (ty:=ty) (pos:=pos) (after:=after) (o:=none) hv oI
  simp only[Oper.wp,hex,Oper.upon]
  have vu:m≠i:=fun e2=>by subst e2;simp at tX
  obtain⟨θ',h4⟩:=hs.give hb (Nat.ble_eq▸hE) hk ho hm (Nat.blt_eq▸qu) vu sX r3 rG rfl
  rw[xn]
  exact kk _ _ ⟨θ',by simpa [Act.put]using h4⟩
theorem PD{d T e' sz:Nat}[ts:L7 P T e' sz]{i ver len e:Nat}{s:List (List AV)}{lo hi:Option Operand}{l h:Int}(hx:F4 σ x=some (.row i ver len))(hb:A5 σ.hp i=some (.row e sz ver s))(hl:AB (F4 σ) 0 lo=some l)(hh:AB (F4 σ) len hi=some h)(h0:0≤l)(h1:l≤h)(h2:h≤len)(hd:Nat.blt d n=true)
  (k:B1 P E n ops rest (σ.put d (.sub i ver l.toNat (h.toNat-l.toNat))) K):B1 P E n ops (⟨some d,.slice T x lo hi none,ty,pos,after,none⟩::rest) σ K :=
 Ig (E3 fun _ _ _ θ a w hs=>by
  obtain⟨hu,inf,oW,hsz⟩:=ts.out
  obtain⟨nZ,hv,oH⟩:=q8 (hs.rel hx) hb
  obtain⟨xs,nh,_⟩:=hs.row hb
  have mk:∀y,Ri (θ i) sz l.toNat (h.toNat-l.toNat) y→D8 (kx E θ σ.nx σ.hp w) (.sub i ver l.toNat (h.toNat-l.toNat)) y:=fun y hy =>
   .sub _ _ _ _ y oH fun e2 pO v2 l2 oM=>by
    have:A5 σ.hp i=some (.row e2 pO v2 l2):=oM
    rw[hb]at this
    cases this
    exact⟨Nat.le_refl _,fun _=>⟨by omega,hy⟩⟩
  rcases nh.2 with ⟨hn,vh⟩|⟨g,cap,nj,hg,_,_,hc,_⟩
  ·have oo:a.eval x=.slice none 0 0:=hv.trans hn
   have e0:len=0:=by omega
   subst e0
   have e1:h=0:=by omega
   have e2:l=0:=by omega
   subst e1;subst e2
   have oD:=CN (P:=P) (isS:=true) (cap:=0) hs hl hh h0 h1 (by omega)
   refine⟨.slice none 0 0,?_,mk _ (.inl ⟨hn,rfl,rfl,rfl⟩)⟩
   simp only[execOp,oo,Instr.sliceAt,Instr.slice,Sem.run_bind,run_underlying hu,Result.andThen_ok,Option.map_none,oD,Sem.run_pure,sizeOf,typeInfo,program,Sem.run,oW]
   rfl
  ·have oo:a.eval x=.slice (some ⟨g,0,none⟩) s.length cap:=hv.trans hg
   rw[nZ]at oo
   have oD:=CN (P:=P) (isS:=true) (cap:=cap) hs hl hh h0 h1 (by omega)
   refine⟨_,?_,mk (.slice (some (if cap=l.toNat then ⟨g,0,none⟩else ⟨g,l.toNat*sz,none⟩)) (h.toNat-l.toNat) (cap-l.toNat)) (.inr ⟨g,_,cap,hg,rfl⟩)⟩
   simp only[execOp,oo,Instr.sliceAt,Instr.slice,Sem.run_bind,run_underlying hu,Result.andThen_ok,Option.map_none,oD,Sem.run_pure,sizeOf,typeInfo,program,Sem.run,oW,hsz,Option.map_some,H3,Nat.zero_add]
   split
   ·rfl
   ·simp only[Option.map,H3,Nat.zero_add]) hd k
theorem Wm{c:Cx}{i ver lo len:Nat}{y:Value}(r:D8 c (.sub i ver lo len) y){e sz:Nat}{l:List (List AV)}(hl:A5 c.hp i=some (.row e sz ver l)):lo+len≤l.length∧Ri (c.θ i) sz lo len y∧i<c.nx:=by
 cases r with
 |im hi=>cases hi
 |sub i ver lo len x hi h=>exact⟨((h e sz ver l hl).2 rfl).1,((h e sz ver l hl).2 rfl).2,hi⟩
theorem ey{d i ver m e sz:Nat}{l:List (List AV)}(hd:look σ.sl d=some (.sub i ver 0 m))(hb:A5 σ.hp i=some (.row e sz ver l))(oZ:e<J5)(hsz:0<sz):St.le E n σ ((σ.set i (.row e sz (ver+1) (l.take m))).put d (.row i (ver+1) m)):=by
 rintro a w ⟨θ,h⟩
 obtain⟨hm,hv,oH⟩:=Wm (h.slots d _ hd) hb
 obtain⟨_,xs,ho,qT,oc,_⟩:=h.owns i _ hb
 have qg:e<L0:=by unfold J5 at oZ;unfold L0;omega
 have nZ:(l.take m).length=m:=by rw[List.length_take];omega
 generalize hy:a.tmps.getD d undef=y at hv
 have oo:Ri (θ i) sz 0 m y:=hv
 have rQ:∃x m c,θ i=.slice x m c:=by
  rcases ho.2 with ⟨h1,_⟩|⟨g,cap,nj,h1,_⟩<;>exact⟨_,_,_,h1⟩
 have key:R7 w e sz y m (xs.take (m*sz))∧∀k,fp y=some k→fp (θ i)=some k:=by
  have wD:(xs.take (m*sz)).length=m*sz:=by
   rw[List.length_take,ho.1]
   have:=Nat.mul_le_mul_right sz (show m≤l.length by omega)
   omega
  rcases oo with ⟨h1,rfl,_,rfl⟩|⟨g,n',cap,h1,rfl⟩
  ·exact⟨⟨by simpa using wD,.inl ⟨rfl,rfl⟩⟩,fun k hk=>by cases hk⟩
  ·rcases ho.2 with ⟨h2,_⟩|⟨g',ot,nj,h2,h3,h4,h5,h6,h7,h8⟩
   ·have oS:θ i=.slice none 0 0:=h2
    rw[h1]at oS;cases oS
   ·have oS:θ i=.slice (some ⟨g',0,none⟩) l.length ot:=h2
    rw[h1]at oS
    cases oS
    have ea:(if cap=0 then (⟨g,0,none⟩:Addr)else ⟨g,0*sz,none⟩)=⟨g,0,none⟩:=by split<;>simp
    rw[ea,Nat.sub_zero]
    refine⟨⟨wD,.inr ⟨g,cap,nj,rfl,.lt (k0 oZ),h4,by omega,h6,h7,?_⟩⟩,fun k hk=>by rw[h1];exact hk⟩
    rw[←h8,List.take_take]
    congr 1
    have:=Nat.mul_le_mul_right sz (show m≤l.length by omega)
    omega
 have ht:=h.turn (v':=y) (b':=.row e sz (ver+1) (l.take m)) (w':=w) (hkp:=fun _ _ _ _ h hk _=>by cases h;rw[Gy oZ]at hk;cases hk) (hne:=fun h=>by rw[N2 (Q3 oZ)]at h;cases h) hb rfl rfl rfl (Nat.le_refl _) (fun _ _ _=>rfl) (fun k hk=>.inl (key.2 k hk))
  ⟨rQ,e,ver,l,rfl,.inl (Nat.lt_succ_self _)⟩ fun le=>by
  refine⟨xs.take (m*sz),by simp only[cx,E7];rw[nZ];exact key.1,fun el nX=>qT el (List.mem_of_mem_take nX),fun k el hk j x hx=>?_,.lt (Q3 oZ)⟩
  rw[List.getElem?_take]at hk
  split at hk
  ·rename_i sQ
   obtain⟨z,hz,hi⟩:=oc k el hk j x hx
   refine⟨z,?_,hi.mono le.heap le.U⟩
   rw[List.getElem?_take,if_pos,hz]
   have hj:j<sz:=by rw[←qT el (List.mem_of_getElem? hk)];exact(List.getElem?_eq_some_iff.1 hx).1
   have:(k+1)*sz≤m*sz:=Nat.mul_le_mul_right _ sQ
   rw[Nat.add_mul,Nat.one_mul]at this
   omega
  ·cases hk
 refine⟨_,ht.size,ht.defers,ht.fr,fun s x hs=>?_,ht.owns,ht.apart,ht.mine,ht.X,ht.base⟩
 simp only[St.put,E6]at hs
 by_cases ed:d=s
 ·subst ed
  rw[if_pos rfl]at hs
  cases hs
  rw[hy]
  refine .row _ _ _ _ oH fun e' ni v2 l2 oM=>?_
  simp only[cx,St.put,St.set,F7,if_pos]at oM
  cases oM
  exact⟨Nat.le_refl _,fun _=>⟨nZ,by simp[cx,E7]⟩⟩
 ·rw[if_neg ed]at hs
  exact ht.slots s x hs
end rules
end Go.Av
