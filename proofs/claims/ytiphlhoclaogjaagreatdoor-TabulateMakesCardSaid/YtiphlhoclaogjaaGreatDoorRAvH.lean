/- Rows within rows of one's own. -/
import Derived.Test.YtiphlhoclaogjaaGreatDoorRAvC
set_option linter.unusedSimpArgs false
set_option linter.unusedVariables false
set_option linter.unnecessarySimpa false
set_option maxHeartbeats 64000000
namespace Go.Av
open Go Go.RowKit
section ghost
variable {E:Env} {n:Nat} {θ:Th} {σ:St} {a:Act} {w:World}
def Hl(θ:Th)(i:Nat)(M:Nat→Option Nat):Th:=⟨θ.v,fun j=>if j=i then M else θ.N j⟩
theorem aX(θ:Th)(i:Nat)(M:Nat→Option Nat):(Hl θ i M).N i=M:=by simp[Hl]
theorem Nf(θ:Th){i j:Nat}(M:Nat→Option Nat)(h:j≠i):(Hl θ i M).N j=θ.N j:=by simp[Hl,h]
theorem J5.reN(h:J5 E n θ σ a w)(i:Nat)(hni:∀b,A5 σ.hp i=some b→V6 b=false)(M:Nat→Option Nat):J5 E n (Hl θ i M) σ a w:=by
 have xS:∀{j:Nat} {b:C4} {k:Nat},A5 σ.hp j=some b→(FP (Hl θ i M) j b k↔FP θ j b k):=fun {j b k} hj=>by
  unfold FP
  by_cases e:j=i
  ·subst e
   rw[hni b hj]
   simp[Hl]
  ·rw[Nf _ _ e]
   rfl
 have le:(cx E θ σ w).le (cx E (Hl θ i M) σ w):=⟨Nat.le_refl _,fun j hj=>.inl rfl,fun j hj e' mP v' l' hl=>⟨e',v',l',hl,.inr ⟨rfl,rfl,rfl⟩⟩,Nat.le_refl _,fun _ _ _=>rfl,fun k hk hu=>by
  rcases hu with hu|⟨j,b,hj,nH⟩
  ·exact .inl hu
  ·exact .inr ⟨j,b,hj,(xS hj).1 nH⟩⟩
 refine⟨h.size,h.defers,h.fr,fun s x hs=>(h.slots s x hs).mono le,fun j b hj=>⟨(h.owns j b hj).1,?_⟩,fun j1 j2 b1 b2 k h1 h2 oX mW=>h.apart j1 j2 b1 b2 k h1 h2 ((xS h1).1 oX) ((xS h2).1 mW),fun j b k hj hk=>h.mine j b k hj ((xS hj).1 hk),h.X,h.base⟩
 by_cases e:j=i
 ·subst e
  have ho:=(h.owns j b hj).2
  have vO:=hni b hj
  cases b with
  |bx τ l=>exact ho.mono (c':=cx E θ σ w) ⟨Nat.le_refl _,fun j hj=>.inl rfl,fun j hj e' mP v' l' hl=>⟨e',v',l',hl,.inr ⟨rfl,rfl,rfl⟩⟩,Nat.le_refl _,fun _ _ _=>rfl,fun _ _ hu=>hu⟩ rfl (fun _=>rfl) (fun _ _=>rfl) |> fun ⟨b',mu,ty,q1,q2,q3,q4⟩=>⟨b',mu,ty,q1,q2,q3,fun j x y hx hy=>(q4 j x y hx hy).mono le⟩
  |row e1 sz1 v1 l1 =>
   obtain⟨xs,q1,q2,q3,q4⟩:=ho
   refine⟨xs,q1,q2,fun k el hk j x hx=>?_,fun hE=>?_⟩
   ·obtain⟨y,hy,hi⟩:=q3 k el hk j x hx
    exact⟨y,hy,hi.mono le.heap le.U⟩
   ·have:V6 (.row e1 sz1 v1 l1)=true:=Nat.ble_eq▸hE
    rw[vO]at this;cases this
  |map m =>
   obtain⟨r,es,clock,q1,q2,q3,q4⟩:=ho
   exact⟨r,es,clock,q1,q2,q3,fun j kx e hx he=>⟨(q4 j kx e hx he).1,(q4 j kx e hx he).2.mono le.heap le.U⟩⟩
  |it s p=>exact ho
 ·exact(h.owns j b hj).2.mono le rfl (fun k=>congrFun (Nf θ M e) k) fun _ _=>rfl
def Xx(x:AV):AV→Prop
 |.own e _ l=>x=.v (.slice none 0 0)∧l=[]∧e<J4
 |y=>x=y
def FM:List AV→List AV→Prop
 |[],[]=>True
 |a::r,b::s=>Xx a b∧FM r s
 |_,_=>False
theorem FM.len:∀{l m:List AV},FM l m→l.length=m.length
 |[],[],_=>rfl
 |_::_,_::_,h=>congrArg (·+1) h.2.len
theorem FM.get:∀{l m:List AV},FM l m→∀(j:Nat) y,m[j]?=some y→∃x,l[j]?=some x∧Xx x y
 |[],[],_,j,y,h=>by simp at h
 |a::r,b::s,h,j,y,hj=>by
  cases j with
  |zero=>simp at hj;subst hj;exact⟨a,rfl,h.1⟩
  |succ j=>simpa using h.2.get j y (by simpa using hj)
def TT(l m:List (List AV)):Prop:=l.length=m.length∧∀(k:Nat) b,m[k]?=some b→∃a,l[k]?=some a∧FM a b
theorem Xy{α:Type}{f g:α→List AV}{l:List α}(h:∀x∈l,FM (f x) (g x)):TT (l.map f) (l.map g):=by
 refine⟨by simp,fun k b hb=>?_⟩
 rw[List.getElem?_map,Option.map_eq_some_iff]at hb
 obtain⟨x,hx,rfl⟩:=hb
 exact⟨f x,by rw[List.getElem?_map,hx];rfl,h x (List.mem_of_getElem? hx)⟩
def Fo(F:Nat):Prop:=F=K0∨F=U1
theorem Fo.le{F e:Nat}(h:Fo F):K0≤F+e:=by rcases h with rfl|rfl<;>(try unfold U1 K0)<;>omega
theorem Fo.cell{F e:Nat}(h:Fo F)(he:e<J4):Qw (F+e)=e:=by
 rcases h with rfl|rfl
 ·unfold Qw
  rw[Wl (by unfold J4 at he;unfold K0;omega),Bool.cond_false,MM (Nat.le_add_right _ _),Bool.cond_true,Nat.add_sub_cancel_left]
 ·unfold Qw
  rw[MM (by unfold U1;omega),Bool.cond_true]
  unfold U1;omega
theorem Xz{e:Nat}(he:e<J4):c8 (K0+e)=false:=by
 cases hb:c8 (K0+e)with
 |false=>rfl
 |true =>
  simp only[c8,Bool.or_eq_true,Bool.and_eq_true,Nat.ble_eq,Nat.blt_eq]at hb
  unfold J4 at he;unfold K6 K0 v7 U1 at hb;omega
theorem L8.to_nest{w:World}{g e F:Nat}{mQ:Array Value}(h:L8 w g mQ e)(he:e<J4)(hF:Fo F):L8 w g mQ (F+e):=by
 refine .inr (.inr (.inl ⟨by have:=hF.le (e:=e);unfold K0 at this;unfold K6;omega,Gx hF.le,?_⟩))
 rw[hF.cell he]
 rcases h with ⟨_,h⟩|⟨h,_⟩|⟨h,_⟩|⟨h,_⟩
 ·exact h
 ·omega
 ·unfold J4 at he;unfold K6 at h;omega
 ·rw[Gw (k6 he)]at h;cases h
theorem L8.of_nest{w:World}{g e F:Nat}{mQ:Array Value}(h:L8 w g mQ (F+e))(he:e<J4)(hF:Fo F):L8 w g mQ e:=by
 have:=hF.le (e:=e)
 refine .inl ⟨by unfold J4 at he;unfold K6;omega,?_⟩
 rcases h with ⟨h,_⟩|⟨_,h,_⟩|⟨_,_,h⟩|⟨h,_⟩
 ·unfold K0 at this;unfold K6 at h;omega
 ·unfold K0 at this;unfold K6 at h;omega
 ·rwa[hF.cell he]at h
 ·rw[Gx this]at h;cases h
theorem WL{i e sz v F:Nat}{l l':List (List AV)}(hF:Fo F)(hb:A5 σ.hp i=some (.row e sz v l))(hi:F=U1→E.n0≤i)(he:e<J4)(hl:TT l l'):St.le E n σ (σ.set i (.row (F+e) sz v l')):=by
 rintro a w ⟨θ,h0⟩
 have h:=h0.reN i (fun b mj=>by rw[hb]at mj;cases mj;exact N8 (Q9 he)) (fun _=>none)
 have ns:=hb
 obtain⟨_,xs,ho,hsz,nQ,_⟩:=h.owns i _ hb
 generalize hθ:Hl θ i (fun _=>none)=θ1 at h ho nQ
 have hN:∀k,θ1.N i k=none:=fun k=>by rw[←hθ,aX]
 have qP:∃x m c,θ1 i=.slice x m c:=by
  rcases ho.2 with ⟨h1,_⟩|⟨g,cap,mQ,h1,_⟩<;>exact⟨_,_,_,h1⟩
 have qn:S0 w (F+e) sz (θ1 i) l'.length xs:=by
  rw[←hl.1]
  exact⟨ho.1,ho.2.imp id fun ⟨g,cap,mQ,h1,h2,h3,r⟩=>⟨g,cap,mQ,h1,.ge hF.le,h3.to_nest he hF,r⟩⟩
 have ht:=h.turn (v':=θ1 i) (b':=.row (F+e) sz v l') (w':=w) (hkp:=fun e2 oB v2 l2 h1 h2 h3=>by
  cases h1
  rcases hF with rfl|rfl
  ·rw[Xz he]at h2;cases h2
  ·exact absurd (hi rfl) (by omega)) (hne:=fun _=>.inr hN) hb rfl rfl rfl (Nat.le_refl _) (fun _ _ _=>rfl) (fun k hk=>.inl hk) ⟨qP,e,v,l,rfl,.inr ⟨rfl,hl.1,rfl⟩⟩ fun le=>by
  refine⟨xs,by simp only[cx,F1];exact qn,fun el mI=>?_,fun k el hk j x hx=>?_,fun _=>⟨fun k p hk=>?_,fun k el hk j e' mP m hj=>?_⟩⟩
  ·obtain⟨k,hk⟩:=List.mem_iff_getElem?.1 mI
   obtain⟨a0,ha,hn⟩:=hl.2 k el hk
   rw[←hn.len];exact hsz a0 (List.mem_of_getElem? ha)
  ·obtain⟨a0,ha,hn⟩:=hl.2 k el hk
   obtain⟨x0,oU,h1⟩:=hn.get j x hx
   obtain⟨y,hy,hz⟩:=nQ k a0 ha j x0 oU
   refine⟨y,hy,?_⟩
   cases x with
   |own e' mP m=>exact .own e' mP m y
   |_=>simp only[Xx]at h1;subst h1;exact hz.mono le.heap le.U
  ·have nH:θ1.N i k=some p:=hk
   rw[hN k]at nH;cases nH
  ·obtain⟨a0,ha,hn⟩:=hl.2 k el hk
   obtain⟨x0,oU,rfl,rfl,pz⟩:=hn.get j _ hj
   obtain⟨y,hy,hz⟩:=nQ k a0 ha j _ oU
   cases hz
   rcases ho.2 with ⟨_,vG⟩|⟨g,cap,mQ,h1,h2,h3,h4⟩
   ·rw[List.eq_nil_of_length_eq_zero vG]at ha;simp at ha
   ·have mO:=ho
    have my:θ1 i=.slice (some ⟨g,0,none⟩) l.length cap:=h1
    rw[show (cx E θ1 σ w).θ i=θ1 i from rfl,my]at mO
    have mn:=mO.cells (g:=g) rfl _ _ hy
    rw[H3,Nat.zero_add]at mn
    exact⟨g,l.length,cap,.slice none 0 0,[],by simp only[cx,F1];exact my,mn,⟨by simp,.inl ⟨rfl,rfl⟩⟩,pz,(fun el mI=>by cases mI),(fun q nl hq=>by simp at hq),fun b hb=>by cases hb⟩
 exact⟨_,ht⟩
def On:AV→AV
 |.own _ sz l=>.sl sz l
 |x=>x
theorem QL{i e sz v F:Nat}{l l':List (List AV)}(hF:Fo F)(hb:A5 σ.hp i=some (.row (F+e) sz v l))(he:e<J4)(hl:l'=l.map (·.map On)):St.le E n σ (σ.set i (.row e sz v l')):=by
 subst hl
 rintro a w ⟨θ,h⟩
 obtain⟨mq,xs,ho,hsz,nQ,hne⟩:=h.owns i _ hb
 have hE:=hF.le (e:=e)
 have hN:V6 (.row (F+e) sz v l)=true:=MM hE
 have qP:∃x m c,θ i=.slice x m c:=by
  rcases ho.2 with ⟨h1,_⟩|⟨g,cap,mQ,h1,_⟩<;>exact⟨_,_,_,h1⟩
 have qn:S0 w e sz (θ i) (l.map (·.map On)).length xs:=by
  rw[List.length_map]
  exact⟨ho.1,ho.2.imp id fun ⟨g,cap,mQ,h1,h2,h3,r⟩=>⟨g,cap,mQ,h1,.lt (k6 he),h3.of_nest he hF,r⟩⟩
 have ht:=h.turn (v':=θ i) (b':=.row e sz v (l.map (·.map On))) (w':=w) (hkp:=fun e2 oB v2 l2 h1 h2 h3=>by
  cases h1
  rw[Gy he]at h2;cases h2) (hne:=fun h=>by rw[N8 (Q9 he)]at h;cases h) hb rfl rfl rfl (Nat.le_refl _) (fun _ _ _=>rfl) (fun k hk=>.inl hk) ⟨qP,F+e,v,l,rfl,.inr ⟨rfl,by simp,rfl⟩⟩ fun le=>by
  refine⟨xs,by simp only[cx,F1];exact qn,fun el mI=>?_,fun k el hk j x hx=>?_,.lt (Q9 he)⟩
  ·obtain⟨e0,xK,rfl⟩:=List.mem_map.1 mI
   rw[List.length_map];exact hsz e0 xK
  ·rw[List.getElem?_map,Option.map_eq_some_iff]at hk
   obtain⟨qZ,qr,rfl⟩:=hk
   rw[List.getElem?_map,Option.map_eq_some_iff]at hx
   obtain⟨x0,oU,rfl⟩:=hx
   obtain⟨y,hy,hz⟩:=nQ k qZ qr j x0 oU
   refine⟨y,hy,?_⟩
   cases x0 with
   |own e' mP m =>
    obtain⟨g,m',cap,y',ys,q1,q2,q3,q4,q5,q6,q7⟩:=(hne hE).2 k qZ qr j e' mP m oU
    have mO:=ho
    have vo:θ i=.slice (some ⟨g,0,none⟩) m' cap:=q1
    rw[show (cx E θ σ w).θ i=θ i from rfl,vo]at mO
    have mn:=mO.cells (g:=g) rfl _ _ hy
    rw[H3,Nat.zero_add]at mn
    rw[mn]at q2
    cases q2
    simp only[On]
    rcases q3.2 with ⟨h1,h2⟩|⟨g2,qc,sf,h1,_,h3,h4,h5,h6,h7⟩
    ·rw[h1,List.eq_nil_of_length_eq_zero h2];exact .slnil mP
    ·have q3':=q3
     rw[h1]at q3' ⊢
     obtain⟨tD,zt⟩:=q7 g2 (by rw[h1];rfl)
     have wR:¬(cx E (upd θ i (θ i)) (σ.set i (.row e sz v (l.map (·.map On)))) w).U g2:=by
      rintro (hx|⟨j2,b2,pb,mW⟩)
      ·exact(h.mine i _ g2 hb (.inr ⟨hN,_,zt⟩)).1 hx
      ·simp only[cx,St.set,G4]at pb
       by_cases e2:i=j2
       ·subst e2
        rw[if_pos rfl]at pb
        cases pb
        rcases mW with mW|⟨mW,_⟩
        ·simp only[cx,F1]at mW
         rw[vo]at mW
         simp[fp]at mW
         exact tD mW.symm
        ·rw[N8 (Q9 he)]at mW;cases mW
       ·rw[if_neg e2]at pb
        refine e2 (h.apart i j2 _ b2 g2 hb pb (.inr ⟨hN,_,zt⟩) ?_)
        unfold FP at mW ⊢
        simpa only[cx,O2 _ _ (Ne.symm e2),ML]using mW
     have oA:∀i,i<m.length→∀j,j<mP→∃y,ys[i*mP+j]?=some y:=by
      intro i hi j hj
      have h1:(i+1)*mP≤m.length*mP:=Nat.mul_le_mul_right _ hi
      rw[Nat.add_mul,Nat.one_mul]at h1
      have h2:i*mP+j<ys.length:=by rw[q3.1];omega
      exact⟨_,List.getElem?_eq_getElem h2⟩
     refine .sl mP m ⟨g2,0,none⟩ qc (fun i j=>ys.getD (i*mP+j) undef) h4 h5 (fun _ _=>wR) q5 (fun i hi j hj=>?_) (fun k el hk j x hx=>?_)
     ·obtain⟨y,hy⟩:=oA i hi j hj
      have:=q3'.cells (g:=g2) rfl _ _ hy
      rw[H3]
      have e:ys.getD (i*mP+j) undef=y:=by rw[List.getD,hy];rfl
      rw[e]
      show w.cell? _=_
      have this:w.cell? _=_:=this
      simpa [H3]using this
     ·obtain⟨y,hy,nQ⟩:=q6 k el hk j x hx
      have e:ys.getD (k*mP+j) undef=y:=by rw[List.getD,hy];rfl
      rw[e]
      exact nQ.mono le.heap le.U
   |_=>exact hz.mono le.heap le.U
 exact⟨_,ht⟩
theorem J5.take{i ver k off e sz e' mP:Nat}{l m:List (List AV)}{el:List AV}(h:J5 E n θ σ a w)(hb:A5 σ.hp i=some (.row e sz ver l))(hE:K0≤e)(hk:l[k]?=some el)(xV:el[off]?=some (.own e' mP m)):
  ∃g n' cap y θ',θ i=.slice (some ⟨g,0,none⟩) n' cap∧w.cell? ⟨g,k*sz+off,none⟩=some y∧θ' σ.nx=y ∧
   J5 E n θ' ⟨σ.sl,σ.nx+1,(σ.nx,some (.row e' mP 0 m))::(i,some (.row e sz ver (l.set k (el.set off .any))))::σ.hp⟩ a w:=by
 obtain⟨mq,xs,ho,hsz,nQ,hne⟩:=h.owns i _ hb
 obtain⟨vP,vC⟩:=hne hE
 obtain⟨g,n',cap,y,ys,q1,q2,q3,q4,q5,q6,q7⟩:=vC k el hk off e' mP m xV
 have vo:θ i=.slice (some ⟨g,0,none⟩) n' cap:=q1
 have mT:k<l.length:=(List.getElem?_eq_some_iff.1 hk).1
 have oK:off<sz:=by rw[←hsz el (List.mem_of_getElem? hk)];exact(List.getElem?_eq_some_iff.1 xV).1
 have hN:V6 (.row e sz ver l)=true:=MM hE
 let θ':Th:=⟨fun j=>if j=σ.nx then y else θ j,fun j b=>if j=i then (if fp y=some b then none else θ.N i b)else θ.N j b⟩
 let b1:C4:=.row e' mP 0 m
 let b2:C4:=.row e sz ver (l.set k (el.set off .any))
 let σ':St:=⟨σ.sl,σ.nx+1,(σ.nx,some b1)::(i,some b2)::σ.hp⟩
 have sZ:i<σ.nx:=mq
 have mZ:∀j,A5 σ'.hp j=if σ.nx=j then some b1 else if i=j then some b2 else A5 σ.hp j:=fun j=>by simp only[σ',G4]
 have tW:∀j,j<σ.nx→θ' j=θ j:=fun j hj=>by simp only[θ',if_neg (Nat.ne_of_lt hj)]
 have yo:θ' σ.nx=y:=by simp only[θ',if_pos]
 have hNi:∀b p,θ'.N i b=some p→θ.N i b=some p:=fun b p hp=>by
  simp only[θ',if_pos]at hp
  split at hp
  ·cases hp
  ·exact hp
 have wT:∀j,j≠i→θ'.N j=θ.N j:=fun j hj=>by simp only[θ',if_neg hj]
 -- the blocks under the new names
 have xt:∀{q:Nat},FP θ' σ.nx b1 q→fp y=some q:=fun hq=>by
  rcases hq with hq|⟨hq,_⟩
  ·rwa[yo]at hq
  ·have:V6 b1=false:=N8 (Q9 q4)
   rw[this]at hq;cases hq
 have tq:∀{q:Nat},fp y=some q→FP θ i (.row e sz ver l) q:=fun hq=>.inr ⟨hN,_,(q7 _ hq).2⟩
 have sS:∀{q:Nat},FP θ' i b2 q→FP θ i (.row e sz ver l) q∧fp y≠some q:=fun {q} hq=>by
  rcases hq with hq|⟨_,p,hp⟩
  ·rw[tW i sZ]at hq
   refine⟨.inl hq,fun hy=>(q7 q hy).1 ?_⟩
   rw[vo]at hq
   simp[fp]at hq
   exact hq.symm
  ·refine⟨.inr ⟨hN,p,hNi q p hp⟩,fun hy=>?_⟩
   simp only[θ',if_pos,hy]at hp
   cases hp
 have qY:∀{j:Nat} {b:C4} {q:Nat},j≠i→j<σ.nx→FP θ' j b q→FP θ j b q:=fun hj mM hq=>by
  unfold FP at hq ⊢
  rwa[tW _ mM,wT _ hj]at hq
 have le:(cx E θ σ w).le (cx E θ' σ' w):=by
  refine⟨Nat.le_succ _,fun j hj=>.inl (tW j hj),fun j hj e2 oB v2 l2 hl=>?_,Nat.le_refl _,fun _ _ _=>rfl,fun q _ hu=>?_⟩
  ·have mi:j<σ.nx:=hj
   have nB:A5 σ'.hp j=some (.row e2 oB v2 l2):=hl
   rw[mZ,if_neg (by omega)]at nB
   by_cases ei:i=j
   ·subst ei
    rw[if_pos rfl]at nB
    have nB:some (C4.row e sz ver (l.set k (el.set off .any)))=some (.row e2 oB v2 l2):=nB
    cases nB
    exact⟨e,ver,l,hb,.inr ⟨rfl,by simp,tW i sZ⟩⟩
   ·rw[if_neg ei]at nB
    exact⟨e2,v2,l2,nB,.inr ⟨rfl,rfl,tW j mi⟩⟩
  ·rcases hu with hu|⟨j,b,hj,hq⟩
   ·exact .inl hu
   ·have mi:A5 σ'.hp j=some b:=hj
    rw[mZ]at mi
    by_cases en:σ.nx=j
    ·subst en
     rw[if_pos rfl]at mi
     cases mi
     exact .inr ⟨i,_,hb,tq (xt hq)⟩
    ·rw[if_neg en]at mi
     by_cases ei:i=j
     ·subst ei
      rw[if_pos rfl]at mi
      cases mi
      exact .inr ⟨i,_,hb,(sS hq).1⟩
     ·rw[if_neg ei]at mi
      exact .inr ⟨j,b,mi,qY (Ne.symm ei) (h.owns j b mi).1 hq⟩
 refine⟨g,n',cap,y,θ',vo,q2,yo,h.size,h.defers,h.fr,fun s x hs=>(h.slots s x hs).mono le,fun j b hj=>?_,fun j1 j2 c1 c2 q h1 h2 qu nq=>?_,fun j b q hj hq=>?_,h.X,⟨Nat.le_succ_of_le h.base.1,fun j hj=>?_⟩⟩
 ·have mi:A5 σ'.hp j=some b:=hj
  rw[mZ]at mi
  by_cases en:σ.nx=j
  ·subst en
   rw[if_pos rfl]at mi
   cases mi
   refine⟨Nat.lt_succ_self _,ys,?_,q5,fun k el hk j x hx=>?_,.lt (Q9 q4)⟩
   ·show S0 w e' mP (θ' σ.nx) m.length ys
    rw[yo];exact q3
   ·obtain⟨z,hz,hi⟩:=q6 k el hk j x hx
    exact⟨z,hz,hi.mono le.heap le.U⟩
  ·rw[if_neg en]at mi
   by_cases ei:i=j
   ·subst ei
    rw[if_pos rfl]at mi
    cases mi
    refine⟨Nat.lt_succ_of_lt sZ,xs,?_,fun sO qv=>?_,fun k2 sO mW j2 x2 pD=>?_,fun _=>⟨fun b p hp=>vP b p (hNi b p hp),fun k2 sO mW j2 e2 oB m2 pb=>?_⟩⟩
    ·show S0 w e sz (θ' i) _ xs
     rw[tW i sZ,List.length_set];exact ho
    ·rcases List.mem_or_eq_of_mem_set qv with h2|h2
     ·exact hsz _ h2
     ·rw[h2,List.length_set];exact hsz el (List.mem_of_getElem? hk)
    ·by_cases ek:k=k2
     ·subst ek
      rw[List.getElem?_set_self mT]at mW
      cases mW
      by_cases ej:off=j2
      ·subst ej
       obtain⟨z,hz,hi⟩:=nQ k el hk off _ xV
       have mM:off<el.length:=(List.getElem?_eq_some_iff.1 xV).1
       rw[List.getElem?_set_self mM]at pD
       cases pD
       exact⟨z,hz,.any _⟩
      ·rw[List.getElem?_set_ne ej]at pD
       obtain⟨z,hz,hi⟩:=nQ k el hk j2 x2 pD
       exact⟨z,hz,hi.mono le.heap le.U⟩
     ·rw[List.getElem?_set_ne ek]at mW
      obtain⟨z,hz,hi⟩:=nQ k2 sO mW j2 x2 pD
      exact⟨z,hz,hi.mono le.heap le.U⟩
    ·obtain⟨qZ,g1,g2,g3⟩:=Vf (P:=fun q=>q≠k*sz+off) hk hsz oK (av:=.any) rfl (fun q hq=>hq) k2 sO mW j2 e2 oB m2 pb
     obtain⟨g',n2,qc,y2,yK,r1,r2,r3,r4,r5,r6,r7⟩:=vC k2 qZ g1 j2 e2 oB m2 g2
     refine⟨g',n2,qc,y2,yK,(tW i sZ).trans r1,r2,r3,r4,r5,fun q nl hq j' x hx=>?_,fun b mj=>⟨(r7 b mj).1,?_⟩⟩
     ·obtain⟨z,hz,hi⟩:=r6 q nl hq j' x hx
      exact⟨z,hz,hi.mono le.heap le.U⟩
     ·show θ'.N i b=_
      have h3:=(r7 b mj).2
      have uf:fp y≠some b:=fun hy=>by
       have h4:=(q7 b hy).2
       rw[h4]at h3
       exact g3 (Option.some.inj h3).symm
      simp only[θ',if_pos,if_neg uf]
      exact h3
   ·rw[if_neg ei]at mi
    obtain⟨h1,h2⟩:=h.owns j b mi
    exact⟨Nat.lt_succ_of_lt h1,h2.mono le (tW j h1) (fun q=>congrFun (wT j (Ne.symm ei)) q) fun _ _=>rfl⟩
 ·have my:A5 σ'.hp j1=some c1:=h1
  have nI:A5 σ'.hp j2=some c2:=h2
  rw[mZ]at my nI
  by_cases n1:σ.nx=j1<;>by_cases n2:σ.nx=j2
  ·omega
  ·subst n1
   rw[if_pos rfl]at my
   rw[if_neg n2]at nI
   cases my
   have hy:=xt qu
   by_cases ei:i=j2
   ·subst ei
    rw[if_pos rfl]at nI
    cases nI
    exact absurd hy (sS nq).2
   ·rw[if_neg ei]at nI
    exact absurd (h.apart i j2 _ c2 q hb nI (tq hy) (qY (Ne.symm ei) (h.owns j2 c2 nI).1 nq)) ei
  ·subst n2
   rw[if_pos rfl]at nI
   rw[if_neg n1]at my
   cases nI
   have hy:=xt nq
   by_cases ei:i=j1
   ·subst ei
    rw[if_pos rfl]at my
    cases my
    exact absurd hy (sS qu).2
   ·rw[if_neg ei]at my
    exact absurd (h.apart i j1 _ c1 q hb my (tq hy) (qY (Ne.symm ei) (h.owns j1 c1 my).1 qu)) ei
  ·rw[if_neg n1]at my
   rw[if_neg n2]at nI
   by_cases e1:i=j1<;>by_cases e2:i=j2
   ·omega
   ·subst e1
    rw[if_pos rfl]at my
    rw[if_neg e2]at nI
    cases my
    exact h.apart i j2 _ c2 q hb nI (sS qu).1 (qY (Ne.symm e2) (h.owns j2 c2 nI).1 nq)
   ·subst e2
    rw[if_pos rfl]at nI
    rw[if_neg e1]at my
    cases nI
    exact h.apart j1 i c1 _ q my hb (qY (Ne.symm e1) (h.owns j1 c1 my).1 qu) (sS nq).1
   ·rw[if_neg e1]at my
    rw[if_neg e2]at nI
    exact h.apart j1 j2 c1 c2 q my nI (qY (Ne.symm e1) (h.owns j1 c1 my).1 qu) (qY (Ne.symm e2) (h.owns j2 c2 nI).1 nq)
 ·have mi:A5 σ'.hp j=some b:=hj
  rw[mZ]at mi
  by_cases en:σ.nx=j
  ·subst en
   rw[if_pos rfl]at mi
   cases mi
   exact h.mine i _ q hb (tq (xt hq))
  ·rw[if_neg en]at mi
   by_cases ei:i=j
   ·subst ei
    rw[if_pos rfl]at mi
    cases mi
    exact h.mine i _ q hb (sS hq).1
   ·rw[if_neg ei]at mi
    exact h.mine j b q mi (qY (Ne.symm ei) (h.owns j b mi).1 hq)
 ·have vG:=h.base.1
  rw[tW j (by omega)]
  refine(h.base.2 j hj).imp id fun ⟨h1,h2⟩=>⟨h1,fun ⟨e2,oB,v2,l2,hl,nP⟩=>h2 ?_⟩
  have nB:A5 σ'.hp j=some (.row e2 oB v2 l2):=hl
  rw[mZ,if_neg (by omega)]at nB
  by_cases ei:i=j
  ·subst ei
   rw[if_pos rfl]at nB
   have nB:some (C4.row e sz ver (l.set k (el.set off .any)))=some (.row e2 oB v2 l2):=nB
   cases nB
   exact⟨_,_,_,_,hb,nP⟩
  ·rw[if_neg ei]at nB
   exact⟨_,_,_,_,nB,nP⟩
theorem J5.give{i ver k off e sz e' mP m vm g n' cap:Nat}{l l2:List (List AV)}{el:List AV}{w':World}{mQ:Array Value}(h:J5 E n θ σ a w)(hb:A5 σ.hp i=some (.row e sz ver l))(hE:K0≤e)(hk:l[k]?=some el)(oK:off<sz)
  (hm:A5 σ.hp m=some (.row e' mP vm l2)) (pz:e'<J4) (sb:m≠i) (hθ:θ i=.slice (some ⟨g,0,none⟩) n' cap) (hg:L8 w g mQ e) (rr:k*sz+off<l.length*sz) (hw:w'=w.setRow g (mQ.setIfInBounds (k*sz+off) (θ m))) :
  ∃θ',J5 E n θ' ⟨σ.sl,σ.nx,(m,none)::(i,some (.row e sz ver (l.set k (el.set off (.own e' mP l2)))))::σ.hp⟩ a w':=by
 obtain⟨mq,xs,ho,hsz,nQ,hne⟩:=h.owns i _ hb
 obtain⟨pX,ys,xG,um,yv,_⟩:=h.owns m _ hm
 obtain⟨vP,vC⟩:=hne hE
 have mT:k<l.length:=(List.getElem?_eq_some_iff.1 hk).1
 have hN:V6 (.row e sz ver l)=true:=MM hE
 have rS:w'.os=w.os:=by rw[hw];rfl
 have mY:w'.heap.size=w.heap.size:=by rw[hw];simp
 have hh:∀q,q≠g→w'.heap[q]?=w.heap[q]?:=fun q hq=>by rw[hw];exact setRow_other w g q _ hq
 have nJ:∀q,q≠k*sz+off→w'.cell? ⟨g,q,none⟩=w.cell? ⟨g,q,none⟩:=fun q hq=>by rw[hw];exact Rk hg q hq
 let P0:=k*sz+off
 let θ':Th:=⟨θ.v,fun j b=>if j=i then (if fp (θ m)=some b then some P0 else θ.N i b)else θ.N j b⟩
 let b2:C4:=.row e sz ver (l.set k (el.set off (.own e' mP l2)))
 let σ':St:=⟨σ.sl,σ.nx,(m,none)::(i,some b2)::σ.hp⟩
 have mZ:∀j,A5 σ'.hp j=if m=j then none else if i=j then some b2 else A5 σ.hp j:=fun j=>by simp only[σ',G4]
 have wT:∀j,j≠i→θ'.N j=θ.N j:=fun j hj=>by simp only[θ',if_neg hj]
 have hmb:V6 (.row e' mP vm l2)=false:=N8 (Q9 pz)
 have sS:∀{q:Nat},FP θ' i b2 q→FP θ i (.row e sz ver l) q∨fp (θ m)=some q:=fun {q} hq=>by
  rcases hq with hq|⟨_,p,hp⟩
  ·exact .inl (.inl hq)
  ·simp only[θ',if_pos]at hp
   split at hp
   ·rename_i hq;exact .inr hq
   ·exact .inl (.inr ⟨hN,p,hp⟩)
 have qY:∀{j:Nat} {b:C4} {q:Nat},j≠i→FP θ' j b q→FP θ j b q:=fun hj hq=>by
  unfold FP at hq ⊢
  rwa[wT _ hj]at hq
 have wh:FP θ i (.row e sz ver l) g:=.inl (by rw[hθ];rfl)
 have hgm:∀q,fp (θ m)=some q→q≠g:=fun q hq e2=>sb (h.apart m i _ _ q hm hb (.inl hq) (by rw[e2];exact wh))
 have le:(cx E θ σ w).le (cx E θ' σ' w'):=by
  refine⟨Nat.le_refl _,fun j hj=>.inl rfl,fun j hj e2 oB v2 l3 hl=>?_,by rw[show (cx E θ' σ' w').w=w' from rfl,mY];exact Nat.le_refl _,fun q hq hu=>hh q fun e2=>hu (.inr ⟨i,_,hb,by rw[e2];exact wh⟩),fun q _ hu=>?_⟩
  ·have nB:A5 σ'.hp j=some (.row e2 oB v2 l3):=hl
   rw[mZ]at nB
   by_cases em:m=j
   ·rw[if_pos em]at nB;cases nB
   ·rw[if_neg em]at nB
    by_cases ei:i=j
    ·subst ei
     rw[if_pos rfl]at nB
     have nB:some (C4.row e sz ver (l.set k (el.set off (.own e' mP l2))))=some (.row e2 oB v2 l3):=nB
     cases nB
     exact⟨e,ver,l,hb,.inr ⟨rfl,by simp,rfl⟩⟩
    ·rw[if_neg ei]at nB
     exact⟨e2,v2,l3,nB,.inr ⟨rfl,rfl,rfl⟩⟩
  ·rcases hu with hu|⟨j,b,hj,hq⟩
   ·exact .inl hu
   ·have mi:A5 σ'.hp j=some b:=hj
    rw[mZ]at mi
    by_cases em:m=j
    ·rw[if_pos em]at mi;cases mi
    ·rw[if_neg em]at mi
     by_cases ei:i=j
     ·subst ei
      rw[if_pos rfl]at mi
      cases mi
      rcases sS hq with h1|h1
      ·exact .inr ⟨i,_,hb,h1⟩
      ·exact .inr ⟨m,_,hm,.inl h1⟩
     ·rw[if_neg ei]at mi
      exact .inr ⟨j,b,mi,qY (Ne.symm ei) hq⟩
 have zW:∀{j:Nat} {b:C4} {q:Nat},j≠i→A5 σ.hp j=some b→FP θ j b q→q≠g:=fun hji hj hq e2=>hji (h.apart _ i _ _ _ hj hb hq (by rw[e2];exact wh))
 refine⟨θ',h.size,h.defers.mono fun q hd=>hh q fun e2=>(h.owns i _ hb).2.nodf wh (e2▸hd),⟨rS.trans h.fr.os,by rw[hw];exact h.fr.tape,by rw[hw];exact h.fr.output,by rw[mY];exact h.fr.size,fun q hq hO=>?_⟩,fun s x hs=>(h.slots s x hs).mono le,fun j b hj=>?_,fun j1 j2 c1 c2 q h1 h2 qu nq=>?_,fun j b q hj hq=>?_,h.X,⟨h.base.1,fun j hj=>?_⟩⟩
 ·rw[hh q fun e2=>?_]
  ·exact h.fr.block q hq hO
  ·rcases(h.mine i _ g hb wh).2 with h2|h2
   ·exact hO (e2▸h2)
   ·omega
 ·have mi:A5 σ'.hp j=some b:=hj
  rw[mZ]at mi
  by_cases em:m=j
  ·rw[if_pos em]at mi;cases mi
  ·rw[if_neg em]at mi
   by_cases ei:i=j
   ·subst ei
    rw[if_pos rfl]at mi
    cases mi
    have hxs:xs[P0]?=some (xs[P0]'(by rw[ho.1];exact rr)):=List.getElem?_eq_getElem _
    refine⟨mq,xs.set P0 (θ m),?_,fun sO qv=>?_,fun k2 sO mW j2 x2 pD=>?_,fun _=>⟨fun b p hp=>?_,fun k2 sO mW j2 e2 oB m2 pb=>?_⟩⟩
    ·show S0 w' e sz (θ i) _ _
     refine⟨by rw[List.length_set,List.length_set];exact ho.1,?_⟩
     rcases ho.2 with ⟨hn,_⟩|⟨g',nd,sK,r1,r2,r3,r4,r5,r6,r7⟩
     ·rw[show (cx E θ σ w).θ i=θ i from rfl,hθ]at hn;cases hn
     ·have rZ:θ i=.slice (some ⟨g',0,none⟩) l.length nd:=r1
      have eg:g'=g:=by rw[hθ]at rZ;injection rZ with e1 e2;injection e1 with e1;injection e1 with e1;exact e1.symm
      subst eg
      have ec:sK=mQ:=by
       obtain⟨_,_,s1,_⟩:=r3.some
       obtain⟨_,_,s2,_⟩:=hg.some
       have wW:w.heap[g']?=_:=s1
       rw[s2]at wW
       injection wW with s3
       injection s3 with s3
       exact s3.symm
      subst ec
      have hg':L8 w' g' (sK.setIfInBounds (k*sz+off) (θ m)) e:=by rw[hw];exact hg.set
      exact .inr ⟨g',nd,sK.setIfInBounds (k*sz+off) (θ m),by rw[List.length_set];exact rZ,.ge hE,hg',by rw[List.length_set];exact r4,r5,by simp[r6],by rw[List.length_set,Array.toList_setIfInBounds,←r7,List.take_set]⟩
    ·rcases List.mem_or_eq_of_mem_set qv with h2|h2
     ·exact hsz _ h2
     ·rw[h2,List.length_set];exact hsz el (List.mem_of_getElem? hk)
    ·obtain⟨z,hz,hR⟩:=Ia (R:=fun x y=>∃y0,Im (cx E θ σ w).U w x y0∧y=y0) (v:=θ m) hk hsz ho.1 oK (fun k el hk j x hx=>by
      obtain⟨y,hy,hi⟩:=nQ k el hk j x hx
      exact⟨y,hy,y,hi,rfl⟩) ⟨θ m,.own e' mP l2 _,rfl⟩ k2 sO mW j2 x2 pD
     obtain⟨y0,hi,rfl⟩:=hR
     exact⟨z,hz,hi.mono le.heap le.U⟩
    ·show CS w' b
     have nS:∀q,CS w q→CS w' q:=fun q hq=>by
      by_cases e2:q=g
      ·subst e2
       obtain⟨t,fz,tD,_⟩:=hg.some
       exact⟨_,t,fz,by rw[hw];exact setRow_heap w q mQ _ t _ tD⟩
      ·exact hq.mono (hh q e2)
     have ss:θ'.N i b=some p:=hp
     simp only[θ',if_pos]at ss
     split at ss
     ·rename_i hq
      refine nS b ?_
      rcases xG.2 with ⟨h1,_⟩|⟨q2,qc,sf,h1,_,h3,_⟩
      ·rw[show θ m=(cx E θ σ w).θ m from rfl,h1]at hq;cases hq
      ·rw[show θ m=(cx E θ σ w).θ m from rfl,h1]at hq
       simp[fp]at hq
       subst hq
       obtain⟨t,fz,h4,_⟩:=h3.some
       exact⟨_,_,_,h4⟩
     ·exact nS b (vP b p ss)
    ·by_cases ek:k=k2∧off=j2
     ·obtain⟨rfl,rfl⟩:=ek
      rw[List.getElem?_set_self mT]at mW
      cases mW
      have mM:off<el.length:=by rw[hsz el (List.mem_of_getElem? hk)];exact oK
      rw[List.getElem?_set_self mM]at pb
      cases pb
      refine⟨g,n',cap,θ m,ys,hθ,?_,⟨xG.1,xG.2.imp id fun ⟨p,cp,sf,r1,r2,r3,r4⟩=>⟨p,cp,sf,r1,.lt (k6 pz),r3.mono (hh p (hgm p (by rw[show θ m=(cx E θ σ w).θ m from rfl,r1];rfl))),r4⟩⟩,pz,um,fun q nl hq j' x hx=>?_,fun b mj=>⟨hgm b mj,?_⟩⟩
      ·show w'.cell? _=_
       obtain⟨t,fz,tD,_⟩:=hg.some
       rw[hw,J9 (setRow_heap w g mQ _ t _ tD)]
       have rG:k*sz+off<mQ.size:=by
        rcases ho.2 with ⟨hn,_⟩|⟨g',nd,sK,r1,r2,r3,r4,r5,r6,r7⟩
        ·rw[show (cx E θ σ w).θ i=θ i from rfl,hθ]at hn;cases hn
        ·have rZ:θ i=.slice (some ⟨g',0,none⟩) l.length nd:=r1
         have eg:g'=g:=by rw[hθ]at rZ;injection rZ with e1 e2;injection e1 with e1;injection e1 with e1;exact e1.symm
         subst eg
         obtain⟨_,_,s1,_⟩:=r3.some
         have wW:w.heap[g']?=_:=s1
         rw[tD]at wW
         injection wW with s3
         injection s3 with s3
         rw[s3,r6]
         have:=Nat.mul_le_mul_right sz r4
         omega
       simp[rG]
      ·obtain⟨z,hz,hi⟩:=yv q nl hq j' x hx
       exact⟨z,hz,hi.mono le.heap le.U⟩
      ·show θ'.N i b=_
       simp only[θ',if_pos,mj]
       rfl
     ·have key:∃qZ,l[k2]?=some qZ∧qZ[j2]?=some (.own e2 oB m2)∧k2*sz+j2≠k*sz+off:=by
       by_cases e1:k=k2
       ·subst e1
        rw[List.getElem?_set_self mT]at mW
        cases mW
        have e3:off≠j2:=fun e3=>ek ⟨rfl,e3⟩
        rw[List.getElem?_set_ne e3]at pb
        exact⟨el,hk,pb,by omega⟩
       ·rw[List.getElem?_set_ne e1]at mW
        have hj3:j2<sz:=by rw[←hsz sO (List.mem_of_getElem? mW)];exact(List.getElem?_eq_some_iff.1 pb).1
        exact⟨sO,mW,pb,Ve hj3 oK e1⟩
      obtain⟨qZ,g1,g2,g3⟩:=key
      obtain⟨g',n2,qc,y2,yK,r1,r2,r3,r4,r5,r6,r7⟩:=vC k2 qZ g1 j2 e2 oB m2 g2
      have rZ:θ i=.slice (some ⟨g',0,none⟩) n2 qc:=r1
      have eg:g'=g:=by rw[hθ]at rZ;injection rZ with e1 e2;injection e1 with e1;injection e1 with e1;exact e1.symm
      subst eg
      refine⟨g',n2,qc,y2,yK,rZ,(nJ _ g3).trans r2,⟨r3.1,r3.2.imp id fun ⟨p,cp,sf,s1,s2,s3,s4⟩=>⟨p,cp,sf,s1,.lt (k6 r4),s3.mono (hh p (r7 p (by rw[s1];rfl)).1),s4⟩⟩,r4,r5,fun q nl hq j' x hx=>?_,fun b mj=>⟨(r7 b mj).1,?_⟩⟩
      ·obtain⟨z,hz,hi⟩:=r6 q nl hq j' x hx
       exact⟨z,hz,hi.mono le.heap le.U⟩
      ·show θ'.N i b=_
       have h3:=(r7 b mj).2
       have uf:fp (θ m)≠some b:=fun hy=>sb (h.apart m i _ _ b hm hb (.inl hy) (.inr ⟨hN,_,h3⟩))
       simp only[θ',if_pos,if_neg uf]
       exact h3
   ·rw[if_neg ei]at mi
    obtain⟨h1,h2⟩:=h.owns j b mi
    exact⟨h1,h2.mono le rfl (fun q=>congrFun (wT j (Ne.symm ei)) q) fun q hq=>hh q (zW (Ne.symm ei) mi hq)⟩
 ·have my:A5 σ'.hp j1=some c1:=h1
  have nI:A5 σ'.hp j2=some c2:=h2
  rw[mZ]at my nI
  by_cases n1:m=j1
  ·rw[if_pos n1]at my;cases my
  ·by_cases n2:m=j2
   ·rw[if_pos n2]at nI;cases nI
   ·rw[if_neg n1]at my
    rw[if_neg n2]at nI
    by_cases e1:i=j1<;>by_cases e2:i=j2
    ·omega
    ·subst e1
     rw[if_pos rfl]at my
     rw[if_neg e2]at nI
     cases my
     rcases sS qu with h3|h3
     ·exact h.apart i j2 _ c2 q hb nI h3 (qY (Ne.symm e2) nq)
     ·exact absurd (h.apart m j2 _ c2 q hm nI (.inl h3) (qY (Ne.symm e2) nq)) n2
    ·subst e2
     rw[if_pos rfl]at nI
     rw[if_neg e1]at my
     cases nI
     rcases sS nq with h3|h3
     ·exact h.apart j1 i c1 _ q my hb (qY (Ne.symm e1) qu) h3
     ·exact absurd (h.apart m j1 _ c1 q hm my (.inl h3) (qY (Ne.symm e1) qu)) n1
    ·rw[if_neg e1]at my
     rw[if_neg e2]at nI
     exact h.apart j1 j2 c1 c2 q my nI (qY (Ne.symm e1) qu) (qY (Ne.symm e2) nq)
 ·have mi:A5 σ'.hp j=some b:=hj
  rw[mZ]at mi
  by_cases em:m=j
  ·rw[if_pos em]at mi;cases mi
  ·rw[if_neg em]at mi
   by_cases ei:i=j
   ·subst ei
    rw[if_pos rfl]at mi
    cases mi
    rcases sS hq with h3|h3
    ·exact h.mine i _ q hb h3
    ·exact h.mine m _ q hm (.inl h3)
   ·rw[if_neg ei]at mi
    exact h.mine j b q mi (qY (Ne.symm ei) hq)
 ·refine(h.base.2 j hj).imp id fun ⟨h1,h2⟩=>⟨h1,fun ⟨e2,oB,v2,l3,hl,nP⟩=>h2 ?_⟩
  have nB:A5 σ'.hp j=some (.row e2 oB v2 l3):=hl
  rw[mZ]at nB
  by_cases em:m=j
  ·rw[if_pos em]at nB;cases nB
  ·rw[if_neg em]at nB
   by_cases ei:i=j
   ·subst ei
    rw[if_pos rfl]at nB
    have nB:some (C4.row e sz ver (l.set k (el.set off (.own e' mP l2))))=some (.row e2 oB v2 l3):=nB
    cases nB
    exact⟨_,_,_,_,hb,nP⟩
   ·rw[if_neg ei]at nB
    exact⟨_,_,_,_,nB,nP⟩
end ghost
section rules
variable {P:Program} {E:Env} {n:Nat} {ops:Array Oper} {rest:List Oper} {σ:St} {K:St→Prop} {ty:TypeId} {pos:String} {after:Array Edge} {x y:Operand}
theorem Fp{d T szT:Nat}[tv:G6 P T false szT]{i ver k off e sz e' mP:Nat}{l m:List (List AV)}{el:List AV}(hk:l[k]?=some el)(hx:F5 σ x=some (.elt i ver k off))(hb:A5 σ.hp i=some (.row e sz ver l))(hE:Nat.ble K0 e=true)(hj:el[off]?=some (.own e' mP m))(hd:Nat.blt d n=true)
  (kk:B3 P E n ops rest (St.put ⟨σ.sl,σ.nx+1,(σ.nx,some (.row e' mP 0 m))::(i,some (.row e sz ver (l.set k (el.set off .any))))::σ.hp⟩ d (.row σ.nx 0 m.length)) K):B3 P E n ops (⟨some d,.load T x,ty,pos,after,none⟩::rest) σ K:=by
 intro a w ⟨θ,hs⟩
 obtain⟨g,n',cap,hθ,hv,_⟩:=CA (hs.evT.rel hx) hb
 obtain⟨g2,n2,qc,y,θ',h1,h2,h3,h4⟩:=hs.take hb (Nat.ble_eq▸hE) hk hj
 have ni:θ i=.slice (some ⟨g,0,none⟩) n' cap:=hθ
 have eg:g2=g:=by rw[ni]at h1;injection h1 with e1 e2;injection e1 with e1;injection e1 with e1;exact e1.symm
 subst eg
 unfold wpList
 rw[if_pos (by simp[Region.wanted])]
 left
 have hex:(execOp a.eval ⟨some d,.load T x,ty,pos,after,none⟩).run P w=.ok (.value y) w:=by
  simp only[execOp,hv,Instr.loadAt,Instr.sureAddr,Sem.run_bind,Sem.run_pure,Result.andThen_ok]
  rw[AU (P:=P) (sz:=szT) (v:=y) h2]
  rfl
 simp only[Oper.wp,hex,Oper.upon]
 refine kk _ _ ⟨_,h4.put (Nat.blt_eq▸hd) (.row _ _ _ _ (Nat.lt_succ_self _) fun e2 oB v2 l2 mt=>?_)⟩
 simp only[cx,G4,if_pos]at mt
 cases mt
 exact⟨Nat.le_refl _,fun _=>⟨rfl,h3.symm⟩⟩
theorem Fq{T szT:Nat}[tv:G6 P T false szT]{i ver k off e sz e' mP m vm len:Nat}{l l2:List (List AV)}{el:List AV}(hk:l[k]?=some el)(hx:F5 σ x=some (.elt i ver k off))(hy:F5 σ y=some (.row m vm len))(hb:A5 σ.hp i=some (.row e sz ver l))(hE:Nat.ble K0 e=true)
  (hm:A5 σ.hp m=some (.row e' mP vm l2)) (pz:Nat.blt e' J4=true) (sb:Nat.beq m i=false) (oK:Nat.blt off sz=true) (zJ:szT=1)
  (kk:B3 P E n ops rest ⟨σ.sl,σ.nx,(m,none)::(i,some (.row e sz ver (l.set k (el.set off (.own e' mP l2)))))::σ.hp⟩ K):B3 P E n ops (⟨none,.store T x y,ty,pos,after,none⟩::rest) σ K:=by
 intro a w ⟨θ,hs⟩
 obtain⟨g,n',cap,hθ,hv,_⟩:=CA (hs.evT.rel hx) hb
 obtain⟨_,xR,_⟩:=s9 (hs.evT.rel hy) hm
 obtain⟨xs,mO,hsz,hr⟩:=hs.evT.row hb
 have ni:θ i=.slice (some ⟨g,0,none⟩) n' cap:=hθ
 have vi:a.eval y=θ m:=xR
 have mT:k<l.length:=(List.getElem?_eq_some_iff.1 hk).1
 have ho:=Nat.blt_eq▸oK
 have qE:k*sz+off<l.length*sz:=by
  have:(k+1)*sz≤l.length*sz:=Nat.mul_le_mul_right _ mT
  rw[Nat.add_mul,Nat.one_mul]at this
  omega
 rcases mO.2 with ⟨hn,_⟩|⟨g',nd,mQ,r1,r2,r3,r4,r5,r6,r7⟩
 ·rw[ni]at hn;cases hn
 ·have rZ:θ i=.slice (some ⟨g',0,none⟩) l.length nd:=r1
  have eg:g'=g:=by rw[ni]at rZ;injection rZ with e1 e2;injection e1 with e1;injection e1 with e1;exact e1.symm
  subst eg
  obtain⟨xm,xG,_⟩:=hs.evT.row hm
  have wr:(a.eval y).oneCell'=true:=by
   rw[vi]
   rcases xG.2 with ⟨h1,_⟩|⟨_,_,_,h1,_⟩<;>rw[h1]<;>rfl
  have nK:=Nat.mul_le_mul_right sz r4
  have mw:=ID (P:=P) (T:=T) (ag:=false) (sz:=szT) (v:=a.eval y) wr (En wr) zJ r3 (Gx (Nat.ble_eq▸hE)) (off:=k*sz+off) (by omega)
  unfold wpList
  rw[if_pos (by simp[Region.wanted])]
  left
  have hex:=Fy (ty:=ty) (pos:=pos) (after:=after) (o:=none) hv mw
  simp only[Oper.wp,hex,Oper.upon]
  have uy:m≠i:=fun e2=>by subst e2;simp at sb
  obtain⟨θ',h4⟩:=hs.give hb (Nat.ble_eq▸hE) hk ho hm (Nat.blt_eq▸pz) uy rZ r3 qE rfl
  rw[vi]
  exact kk _ _ ⟨θ',by simpa [Act.put]using h4⟩
theorem Oo{d T e' sz:Nat}[ts:L3 P T e' sz]{i ver len e:Nat}{s:List (List AV)}{lo hi:Option Operand}{l h:Int}(hx:F5 σ x=some (.row i ver len))(hb:A5 σ.hp i=some (.row e sz ver s))(hl:AX (F5 σ) 0 lo=some l)(hh:AX (F5 σ) len hi=some h)(h0:0≤l)(h1:l≤h)(h2:h≤len)(hd:Nat.blt d n=true)
  (k:B3 P E n ops rest (σ.put d (.sub i ver l.toNat (h.toNat-l.toNat))) K):B3 P E n ops (⟨some d,.slice T x lo hi none,ty,pos,after,none⟩::rest) σ K :=
 IV (E4 fun _ _ _ θ a w hs=>by
  obtain⟨hu,inf,nO,hsz⟩:=ts.out
  obtain⟨mL,hv,mq⟩:=s9 (hs.rel hx) hb
  obtain⟨xs,mO,_⟩:=hs.row hb
  have mk:∀y,RQ (θ i) sz l.toNat (h.toNat-l.toNat) y→E0 (kx E θ σ.nx σ.hp w) (.sub i ver l.toNat (h.toNat-l.toNat)) y:=fun y hy =>
   .sub _ _ _ _ y mq fun e2 oB v2 l2 mt=>by
    have:A5 σ.hp i=some (.row e2 oB v2 l2):=mt
    rw[hb]at this
    cases this
    exact⟨Nat.le_refl _,fun _=>⟨by omega,hy⟩⟩
  rcases mO.2 with ⟨hn,vG⟩|⟨g,cap,mQ,hg,_,_,hc,_⟩
  ·have nY:a.eval x=.slice none 0 0:=hv.trans hn
   have e0:len=0:=by omega
   subst e0
   have e1:h=0:=by omega
   have e2:l=0:=by omega
   subst e1;subst e2
   have mj:=CW (P:=P) (isS:=true) (cap:=0) hs hl hh h0 h1 (by omega)
   refine⟨.slice none 0 0,?_,mk _ (.inl ⟨hn,rfl,rfl,rfl⟩)⟩
   simp only[execOp,nY,Instr.sliceAt,Instr.slice,Sem.run_bind,run_underlying hu,Result.andThen_ok,Option.map_none,mj,Sem.run_pure,sizeOf,typeInfo,program,Sem.run,nO]
   rfl
  ·have nY:a.eval x=.slice (some ⟨g,0,none⟩) s.length cap:=hv.trans hg
   rw[mL]at nY
   have mj:=CW (P:=P) (isS:=true) (cap:=cap) hs hl hh h0 h1 (by omega)
   refine⟨_,?_,mk (.slice (some (if cap=l.toNat then ⟨g,0,none⟩else ⟨g,l.toNat*sz,none⟩)) (h.toNat-l.toNat) (cap-l.toNat)) (.inr ⟨g,_,cap,hg,rfl⟩)⟩
   simp only[execOp,nY,Instr.sliceAt,Instr.slice,Sem.run_bind,run_underlying hu,Result.andThen_ok,Option.map_none,mj,Sem.run_pure,sizeOf,typeInfo,program,Sem.run,nO,hsz,Option.map_some,H3,Nat.zero_add]
   split
   ·rfl
   ·simp only[Option.map,H3,Nat.zero_add]) hd k
theorem WM{c:Cx}{i ver lo len:Nat}{y:Value}(r:E0 c (.sub i ver lo len) y){e sz:Nat}{l:List (List AV)}(hl:A5 c.hp i=some (.row e sz ver l)):lo+len≤l.length∧RQ (c.θ i) sz lo len y∧i<c.nx:=by
 cases r with
 |im hi=>cases hi
 |sub i ver lo len x hi h=>exact⟨((h e sz ver l hl).2 rfl).1,((h e sz ver l hl).2 rfl).2,hi⟩
theorem dU{d i ver m e sz:Nat}{l:List (List AV)}(hd:look σ.sl d=some (.sub i ver 0 m))(hb:A5 σ.hp i=some (.row e sz ver l))(nN:e<J4)(hsz:0<sz):St.le E n σ ((σ.set i (.row e sz (ver+1) (l.take m))).put d (.row i (ver+1) m)):=by
 rintro a w ⟨θ,h⟩
 obtain⟨hm,hv,mq⟩:=WM (h.slots d _ hd) hb
 obtain⟨_,xs,ho,pQ,nQ,_⟩:=h.owns i _ hb
 have pf:e<K6:=by unfold J4 at nN;unfold K6;omega
 have mL:(l.take m).length=m:=by rw[List.length_take];omega
 generalize hy:a.tmps.getD d undef=y at hv
 have nY:RQ (θ i) sz 0 m y:=hv
 have qP:∃x m c,θ i=.slice x m c:=by
  rcases ho.2 with ⟨h1,_⟩|⟨g,cap,mQ,h1,_⟩<;>exact⟨_,_,_,h1⟩
 have key:S0 w e sz y m (xs.take (m*sz))∧∀k,fp y=some k→fp (θ i)=some k:=by
  have vN:(xs.take (m*sz)).length=m*sz:=by
   rw[List.length_take,ho.1]
   have:=Nat.mul_le_mul_right sz (show m≤l.length by omega)
   omega
  rcases nY with ⟨h1,rfl,_,rfl⟩|⟨g,n',cap,h1,rfl⟩
  ·exact⟨⟨by simpa using vN,.inl ⟨rfl,rfl⟩⟩,fun k hk=>by cases hk⟩
  ·rcases ho.2 with ⟨h2,_⟩|⟨g',nd,mQ,h2,h3,h4,h5,h6,h7,h8⟩
   ·have nI:θ i=.slice none 0 0:=h2
    rw[h1]at nI;cases nI
   ·have nI:θ i=.slice (some ⟨g',0,none⟩) l.length nd:=h2
    rw[h1]at nI
    cases nI
    have ea:(if cap=0 then (⟨g,0,none⟩:Addr)else ⟨g,0*sz,none⟩)=⟨g,0,none⟩:=by split<;>simp
    rw[ea,Nat.sub_zero]
    refine⟨⟨vN,.inr ⟨g,cap,mQ,rfl,.lt (k6 nN),h4,by omega,h6,h7,?_⟩⟩,fun k hk=>by rw[h1];exact hk⟩
    rw[←h8,List.take_take]
    congr 1
    have:=Nat.mul_le_mul_right sz (show m≤l.length by omega)
    omega
 have ht:=h.turn (v':=y) (b':=.row e sz (ver+1) (l.take m)) (w':=w) (hkp:=fun _ _ _ _ h hk _=>by cases h;rw[Gy nN]at hk;cases hk) (hne:=fun h=>by rw[N8 (Q9 nN)]at h;cases h) hb rfl rfl rfl (Nat.le_refl _) (fun _ _ _=>rfl) (fun k hk=>.inl (key.2 k hk))
  ⟨qP,e,ver,l,rfl,.inl (Nat.lt_succ_self _)⟩ fun le=>by
  refine⟨xs.take (m*sz),by simp only[cx,F1];rw[mL];exact key.1,fun el mI=>pQ el (List.mem_of_mem_take mI),fun k el hk j x hx=>?_,.lt (Q9 nN)⟩
  rw[List.getElem?_take]at hk
  split at hk
  ·rename_i rY
   obtain⟨z,hz,hi⟩:=nQ k el hk j x hx
   refine⟨z,?_,hi.mono le.heap le.U⟩
   rw[List.getElem?_take,if_pos,hz]
   have hj:j<sz:=by rw[←pQ el (List.mem_of_getElem? hk)];exact(List.getElem?_eq_some_iff.1 hx).1
   have:(k+1)*sz≤m*sz:=Nat.mul_le_mul_right _ rY
   rw[Nat.add_mul,Nat.one_mul]at this
   omega
  ·cases hk
 refine⟨_,ht.size,ht.defers,ht.fr,fun s x hs=>?_,ht.owns,ht.apart,ht.mine,ht.X,ht.base⟩
 simp only[St.put,E9]at hs
 by_cases ed:d=s
 ·subst ed
  rw[if_pos rfl]at hs
  cases hs
  rw[hy]
  refine .row _ _ _ _ mq fun e' mP v2 l2 mt=>?_
  simp only[cx,St.put,St.set,G4,if_pos]at mt
  cases mt
  exact⟨Nat.le_refl _,fun _=>⟨mL,by simp[cx,F1]⟩⟩
 ·rw[if_neg ed]at hs
  exact ht.slots s x hs
end rules
end Go.Av
