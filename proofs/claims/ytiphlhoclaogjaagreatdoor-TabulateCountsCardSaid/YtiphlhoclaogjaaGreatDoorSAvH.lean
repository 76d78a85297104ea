/- Rows within rows of one's own. -/
import Derived.Test.YtiphlhoclaogjaaGreatDoorSE3
set_option linter.unusedSimpArgs false
set_option linter.unusedVariables false
set_option linter.unnecessarySimpa false
set_option maxHeartbeats 64000000
namespace Go.Av
open Go Go.RowKit
section ghost
variable {E:Env} {n:Nat} {θ:Th} {σ:St} {a:Act} {w:World}
def Hr(θ:Th)(i:Nat)(M:Nat→Option Nat):Th:=⟨θ.v,fun j=>if j=i then M else θ.N j⟩
theorem aW(θ:Th)(i:Nat)(M:Nat→Option Nat):(Hr θ i M).N i=M:=by simp[Hr]
theorem Ns(θ:Th){i j:Nat}(M:Nat→Option Nat)(h:j≠i):(Hr θ i M).N j=θ.N j:=by simp[Hr,h]
theorem J5.reN(h:J5 E n θ σ a w)(i:Nat)(yS:∀b,A5 σ.hp i=some b→U9 b=false)(M:Nat→Option Nat):J5 E n (Hr θ i M) σ a w:=by
 have wL:∀{j:Nat} {b:C6} {k:Nat},A5 σ.hp j=some b→(FP (Hr θ i M) j b k↔FP θ j b k):=fun {j b k} hj=>by
  unfold FP
  by_cases e:j=i
  ·subst e
   rw[yS b hj]
   simp[Hr]
  ·rw[Ns _ _ e]
   rfl
 have le:(cx E θ σ w).le (cx E (Hr θ i M) σ w):=⟨Nat.le_refl _,fun j hj=>.inl rfl,fun j hj e' lb v' l' hl=>⟨e',v',l',hl,.inr ⟨rfl,rfl,rfl⟩⟩,Nat.le_refl _,fun _ _ _=>rfl,fun k hk hu=>by
  rcases hu with hu|⟨j,b,hj,mQ⟩
  ·exact .inl hu
  ·exact .inr ⟨j,b,hj,(wL hj).1 mQ⟩⟩
 refine⟨h.size,h.defers,h.fr,fun s x hs=>(h.slots s x hs).mono le,fun j b hj=>⟨(h.owns j b hj).1,?_⟩,fun j1 j2 b1 b2 k h1 h2 nr lg=>h.apart j1 j2 b1 b2 k h1 h2 ((wL h1).1 nr) ((wL h2).1 lg),fun j b k hj hk=>h.mine j b k hj ((wL hj).1 hk),h.X,h.base⟩
 by_cases e:j=i
 ·subst e
  have ho:=(h.owns j b hj).2
  have uR:=yS b hj
  cases b with
  |bx τ l=>exact ho.mono (c':=cx E θ σ w) ⟨Nat.le_refl _,fun j hj=>.inl rfl,fun j hj e' lb v' l' hl=>⟨e',v',l',hl,.inr ⟨rfl,rfl,rfl⟩⟩,Nat.le_refl _,fun _ _ _=>rfl,fun _ _ hu=>hu⟩ rfl (fun _=>rfl) (fun _ _=>rfl) |> fun ⟨b',mG,ty,q1,q2,q3,q4⟩=>⟨b',mG,ty,q1,q2,q3,fun j x y hx hy=>(q4 j x y hx hy).mono le⟩
  |row e1 sz1 v1 l1 =>
   obtain⟨xs,q1,q2,q3,q4⟩:=ho
   refine⟨xs,q1,q2,fun k el hk j x hx=>?_,fun hE=>?_⟩
   ·obtain⟨y,hy,hi⟩:=q3 k el hk j x hx
    exact⟨y,hy,hi.mono le.heap le.U⟩
   ·have:U9 (.row e1 sz1 v1 l1)=true:=Nat.ble_eq▸hE
    rw[uR]at this;cases this
  |map m =>
   obtain⟨r,es,clock,q1,q2,q3,q4⟩:=ho
   exact⟨r,es,clock,q1,q2,q3,fun j kx e hx he=>⟨(q4 j kx e hx he).1,(q4 j kx e hx he).2.mono le.heap le.U⟩⟩
  |it s p=>exact ho
 ·exact(h.owns j b hj).2.mono le rfl (fun k=>congrFun (Ns θ M e) k) fun _ _=>rfl
def Xz(x:AV):AV→Prop
 |.own e _ l=>x=.v (.slice none 0 0)∧l=[]∧e<J4
 |y=>x=y
def FN:List AV→List AV→Prop
 |[],[]=>True
 |a::r,b::s=>Xz a b∧FN r s
 |_,_=>False
theorem FN.len:∀{l m:List AV},FN l m→l.length=m.length
 |[],[],_=>rfl
 |_::_,_::_,h=>congrArg (·+1) h.2.len
theorem FN.get:∀{l m:List AV},FN l m→∀(j:Nat) y,m[j]?=some y→∃x,l[j]?=some x∧Xz x y
 |[],[],_,j,y,h=>by simp at h
 |a::r,b::s,h,j,y,hj=>by
  cases j with
  |zero=>simp at hj;subst hj;exact⟨a,rfl,h.1⟩
  |succ j=>simpa using h.2.get j y (by simpa using hj)
def TX(l m:List (List AV)):Prop:=l.length=m.length∧∀(k:Nat) b,m[k]?=some b→∃a,l[k]?=some a∧FN a b
theorem YA{α:Type}{f g:α→List AV}{l:List α}(h:∀x∈l,FN (f x) (g x)):TX (l.map f) (l.map g):=by
 refine⟨by simp,fun k b hb=>?_⟩
 rw[List.getElem?_map,Option.map_eq_some_iff]at hb
 obtain⟨x,hx,rfl⟩:=hb
 exact⟨f x,by rw[List.getElem?_map,hx];rfl,h x (List.mem_of_getElem? hx)⟩
def Fy(F:Nat):Prop:=F=J9∨F=T9
theorem Fy.le{F e:Nat}(h:Fy F):J9≤F+e:=by rcases h with rfl|rfl<;>(try unfold T9 J9)<;>omega
theorem Fy.cell{F e:Nat}(h:Fy F)(he:e<J4):Qz (F+e)=e:=by
 rcases h with rfl|rfl
 ·unfold Qz
  rw[Wn (by unfold J4 at he;unfold J9;omega),Bool.cond_false,MU (Nat.le_add_right _ _),Bool.cond_true,Nat.add_sub_cancel_left]
 ·unfold Qz
  rw[MU (by unfold T9;omega),Bool.cond_true]
  unfold T9;omega
theorem YB{e:Nat}(he:e<J4):Y5 (J9+e)=false:=by
 cases hb:Y5 (J9+e)with
 |false=>rfl
 |true =>
  simp only[Y5,Bool.or_eq_true,Bool.and_eq_true,Nat.ble_eq,Nat.blt_eq]at hb
  unfold J4 at he;unfold K8 J9 y8 T9 at hb;omega
theorem L7.to_nest{w:World}{g e F:Nat}{lc:Array Value}(h:L7 w g lc e)(he:e<J4)(hF:Fy F):L7 w g lc (F+e):=by
 refine .inr (.inr (.inl ⟨by have:=hF.le (e:=e);unfold J9 at this;unfold K8;omega,HC hF.le,?_⟩))
 rw[hF.cell he]
 rcases h with ⟨_,h⟩|⟨h,_⟩|⟨h,_⟩|⟨h,_⟩
 ·exact h
 ·omega
 ·unfold J4 at he;unfold K8 at h;omega
 ·rw[HB (k6 he)]at h;cases h
theorem L7.of_nest{w:World}{g e F:Nat}{lc:Array Value}(h:L7 w g lc (F+e))(he:e<J4)(hF:Fy F):L7 w g lc e:=by
 have:=hF.le (e:=e)
 refine .inl ⟨by unfold J4 at he;unfold K8;omega,?_⟩
 rcases h with ⟨h,_⟩|⟨_,h,_⟩|⟨_,_,h⟩|⟨h,_⟩
 ·unfold J9 at this;unfold K8 at h;omega
 ·unfold J9 at this;unfold K8 at h;omega
 ·rwa[hF.cell he]at h
 ·rw[HC this]at h;cases h
theorem WN{i e sz v F:Nat}{l l':List (List AV)}(hF:Fy F)(hb:A5 σ.hp i=some (.row e sz v l))(hi:F=T9→E.n0≤i)(he:e<J4)(hl:TX l l'):St.le E n σ (σ.set i (.row (F+e) sz v l')):=by
 rintro a w ⟨θ,h0⟩
 have h:=h0.reN i (fun b mC=>by rw[hb]at mC;cases mC;exact N4 (Q2 he)) (fun _=>none)
 have nF:=hb
 obtain⟨_,xs,ho,hsz,mY,_⟩:=h.owns i _ hb
 generalize hθ:Hr θ i (fun _=>none)=θ1 at h ho mY
 have hN:∀k,θ1.N i k=none:=fun k=>by rw[←hθ,aW]
 have pO:∃x m c,θ1 i=.slice x m c:=by
  rcases ho.2 with ⟨h1,_⟩|⟨g,cap,lc,h1,_⟩<;>exact⟨_,_,_,h1⟩
 have qg:R7 w (F+e) sz (θ1 i) l'.length xs:=by
  rw[←hl.1]
  exact⟨ho.1,ho.2.imp id fun ⟨g,cap,lc,h1,h2,h3,r⟩=>⟨g,cap,lc,h1,.ge hF.le,h3.to_nest he hF,r⟩⟩
 have ht:=h.turn (v':=θ1 i) (b':=.row (F+e) sz v l') (w':=w) (hkp:=fun e2 nI v2 l2 h1 h2 h3=>by
  cases h1
  rcases hF with rfl|rfl
  ·rw[YB he]at h2;cases h2
  ·exact absurd (hi rfl) (by omega)) (hne:=fun _=>.inr hN) hb rfl rfl rfl (Nat.le_refl _) (fun _ _ _=>rfl) (fun k hk=>.inl hk) ⟨pO,e,v,l,rfl,.inr ⟨rfl,hl.1,rfl⟩⟩ fun le=>by
  refine⟨xs,by simp only[cx,E8];exact qg,fun el lU=>?_,fun k el hk j x hx=>?_,fun _=>⟨fun k p hk=>?_,fun k el hk j e' lb m hj=>?_⟩⟩
  ·obtain⟨k,hk⟩:=List.mem_iff_getElem?.1 lU
   obtain⟨a0,ha,hn⟩:=hl.2 k el hk
   rw[←hn.len];exact hsz a0 (List.mem_of_getElem? ha)
  ·obtain⟨a0,ha,hn⟩:=hl.2 k el hk
   obtain⟨x0,nf,h1⟩:=hn.get j x hx
   obtain⟨y,hy,hz⟩:=mY k a0 ha j x0 nf
   refine⟨y,hy,?_⟩
   cases x with
   |own e' lb m=>exact .own e' lb m y
   |_=>simp only[Xz]at h1;subst h1;exact hz.mono le.heap le.U
  ·have mQ:θ1.N i k=some p:=hk
   rw[hN k]at mQ;cases mQ
  ·obtain⟨a0,ha,hn⟩:=hl.2 k el hk
   obtain⟨x0,nf,rfl,rfl,ot⟩:=hn.get j _ hj
   obtain⟨y,hy,hz⟩:=mY k a0 ha j _ nf
   cases hz
   rcases ho.2 with ⟨_,rl⟩|⟨g,cap,lc,h1,h2,h3,h4⟩
   ·rw[List.eq_nil_of_length_eq_zero rl]at ha;simp at ha
   ·have la:=ho
    have mJ:θ1 i=.slice (some ⟨g,0,none⟩) l.length cap:=h1
    rw[show (cx E θ1 σ w).θ i=θ1 i from rfl,mJ]at la
    have mS:=la.cells (g:=g) rfl _ _ hy
    rw[H3,Nat.zero_add]at mS
    exact⟨g,l.length,cap,.slice none 0 0,[],by simp only[cx,E8];exact mJ,mS,⟨by simp,.inl ⟨rfl,rfl⟩⟩,ot,(fun el lU=>by cases lU),(fun q mx hq=>by simp at hq),fun b hb=>by cases hb⟩
 exact⟨_,ht⟩
def Oy:AV→AV
 |.own _ sz l=>.sl sz l
 |x=>x
theorem QR{i e sz v F:Nat}{l l':List (List AV)}(hF:Fy F)(hb:A5 σ.hp i=some (.row (F+e) sz v l))(he:e<J4)(hl:l'=l.map (·.map Oy)):St.le E n σ (σ.set i (.row e sz v l')):=by
 subst hl
 rintro a w ⟨θ,h⟩
 obtain⟨mE,xs,ho,hsz,mY,hne⟩:=h.owns i _ hb
 have hE:=hF.le (e:=e)
 have hN:U9 (.row (F+e) sz v l)=true:=MU hE
 have pO:∃x m c,θ i=.slice x m c:=by
  rcases ho.2 with ⟨h1,_⟩|⟨g,cap,lc,h1,_⟩<;>exact⟨_,_,_,h1⟩
 have qg:R7 w e sz (θ i) (l.map (·.map Oy)).length xs:=by
  rw[List.length_map]
  exact⟨ho.1,ho.2.imp id fun ⟨g,cap,lc,h1,h2,h3,r⟩=>⟨g,cap,lc,h1,.lt (k6 he),h3.of_nest he hF,r⟩⟩
 have ht:=h.turn (v':=θ i) (b':=.row e sz v (l.map (·.map Oy))) (w':=w) (hkp:=fun e2 nI v2 l2 h1 h2 h3=>by
  cases h1
  rw[HD he]at h2;cases h2) (hne:=fun h=>by rw[N4 (Q2 he)]at h;cases h) hb rfl rfl rfl (Nat.le_refl _) (fun _ _ _=>rfl) (fun k hk=>.inl hk) ⟨pO,F+e,v,l,rfl,.inr ⟨rfl,by simp,rfl⟩⟩ fun le=>by
  refine⟨xs,by simp only[cx,E8];exact qg,fun el lU=>?_,fun k el hk j x hx=>?_,.lt (Q2 he)⟩
  ·obtain⟨e0,vK,rfl⟩:=List.mem_map.1 lU
   rw[List.length_map];exact hsz e0 vK
  ·rw[List.getElem?_map,Option.map_eq_some_iff]at hk
   obtain⟨pV,pk,rfl⟩:=hk
   rw[List.getElem?_map,Option.map_eq_some_iff]at hx
   obtain⟨x0,nf,rfl⟩:=hx
   obtain⟨y,hy,hz⟩:=mY k pV pk j x0 nf
   refine⟨y,hy,?_⟩
   cases x0 with
   |own e' lb m =>
    obtain⟨g,m',cap,y',ys,q1,q2,q3,q4,q5,q6,q7⟩:=(hne hE).2 k pV pk j e' lb m nf
    have la:=ho
    have vV:θ i=.slice (some ⟨g,0,none⟩) m' cap:=q1
    rw[show (cx E θ σ w).θ i=θ i from rfl,vV]at la
    have mS:=la.cells (g:=g) rfl _ _ hy
    rw[H3,Nat.zero_add]at mS
    rw[mS]at q2
    cases q2
    simp only[Oy]
    rcases q3.2 with ⟨h1,h2⟩|⟨g2,pd,rZ,h1,_,h3,h4,h5,h6,h7⟩
    ·rw[h1,List.eq_nil_of_length_eq_zero h2];exact .slnil lb
    ·have zE:=q3
     rw[h1]at zE ⊢
     obtain⟨sC,zR⟩:=q7 g2 (by rw[h1];rfl)
     have vA:¬(cx E (upd θ i (θ i)) (σ.set i (.row e sz v (l.map (·.map Oy)))) w).U g2:=by
      rintro (hx|⟨j2,b2,oP,lg⟩)
      ·exact(h.mine i _ g2 hb (.inr ⟨hN,_,zR⟩)).1 hx
      ·simp only[cx,St.set,G4]at oP
       by_cases e2:i=j2
       ·subst e2
        rw[if_pos rfl]at oP
        cases oP
        rcases lg with lg|⟨lg,_⟩
        ·simp only[cx,E8]at lg
         rw[vV]at lg
         simp[fp]at lg
         exact sC lg.symm
        ·rw[N4 (Q2 he)]at lg;cases lg
       ·rw[if_neg e2]at oP
        refine e2 (h.apart i j2 _ b2 g2 hb oP (.inr ⟨hN,_,zR⟩) ?_)
        unfold FP at lg ⊢
        simpa only[cx,O2 _ _ (Ne.symm e2),MT]using lg
     have nM:∀i,i<m.length→∀j,j<lb→∃y,ys[i*lb+j]?=some y:=by
      intro i hi j hj
      have h1:(i+1)*lb≤m.length*lb:=Nat.mul_le_mul_right _ hi
      rw[Nat.add_mul,Nat.one_mul]at h1
      have h2:i*lb+j<ys.length:=by rw[q3.1];omega
      exact⟨_,List.getElem?_eq_getElem h2⟩
     refine .sl lb m ⟨g2,0,none⟩ pd (fun i j=>ys.getD (i*lb+j) undef) h4 h5 (fun _ _=>vA) q5 (fun i hi j hj=>?_) (fun k el hk j x hx=>?_)
     ·obtain⟨y,hy⟩:=nM i hi j hj
      have:=zE.cells (g:=g2) rfl _ _ hy
      rw[H3]
      have e:ys.getD (i*lb+j) undef=y:=by rw[List.getD,hy];rfl
      rw[e]
      show w.cell? _=_
      have this:w.cell? _=_:=this
      simpa [H3]using this
     ·obtain⟨y,hy,mY⟩:=q6 k el hk j x hx
      have e:ys.getD (k*lb+j) undef=y:=by rw[List.getD,hy];rfl
      rw[e]
      exact mY.mono le.heap le.U
   |_=>exact hz.mono le.heap le.U
 exact⟨_,ht⟩
theorem J5.take{i ver k off e sz e' lb:Nat}{l m:List (List AV)}{el:List AV}(h:J5 E n θ σ a w)(hb:A5 σ.hp i=some (.row e sz ver l))(hE:J9≤e)(hk:l[k]?=some el)(wQ:el[off]?=some (.own e' lb m)):
  ∃g n' cap y θ',θ i=.slice (some ⟨g,0,none⟩) n' cap∧w.cell? ⟨g,k*sz+off,none⟩=some y∧θ' σ.nx=y ∧
   J5 E n θ' ⟨σ.sl,σ.nx+1,(σ.nx,some (.row e' lb 0 m))::(i,some (.row e sz ver (l.set k (el.set off .any))))::σ.hp⟩ a w:=by
 obtain⟨mE,xs,ho,hsz,mY,hne⟩:=h.owns i _ hb
 obtain⟨uU,uG⟩:=hne hE
 obtain⟨g,n',cap,y,ys,q1,q2,q3,q4,q5,q6,q7⟩:=uG k el hk off e' lb m wQ
 have vV:θ i=.slice (some ⟨g,0,none⟩) n' cap:=q1
 have lk:k<l.length:=(List.getElem?_eq_some_iff.1 hk).1
 have nQ:off<sz:=by rw[←hsz el (List.mem_of_getElem? hk)];exact(List.getElem?_eq_some_iff.1 wQ).1
 have hN:U9 (.row e sz ver l)=true:=MU hE
 let θ':Th:=⟨fun j=>if j=σ.nx then y else θ j,fun j b=>if j=i then (if fp y=some b then none else θ.N i b)else θ.N j b⟩
 let b1:C6:=.row e' lb 0 m
 let b2:C6:=.row e sz ver (l.set k (el.set off .any))
 let σ':St:=⟨σ.sl,σ.nx+1,(σ.nx,some b1)::(i,some b2)::σ.hp⟩
 have rN:i<σ.nx:=mE
 have li:∀j,A5 σ'.hp j=if σ.nx=j then some b1 else if i=j then some b2 else A5 σ.hp j:=fun j=>by simp only[σ',G4]
 have sb:∀j,j<σ.nx→θ' j=θ j:=fun j hj=>by simp only[θ',if_neg (Nat.ne_of_lt hj)]
 have xU:θ' σ.nx=y:=by simp only[θ',if_pos]
 have zS:∀b p,θ'.N i b=some p→θ.N i b=some p:=fun b p hp=>by
  simp only[θ',if_pos]at hp
  split at hp
  ·cases hp
  ·exact hp
 have vO:∀j,j≠i→θ'.N j=θ.N j:=fun j hj=>by simp only[θ',if_neg hj]
 -- the blocks under the new names
 have wJ:∀{q:Nat},FP θ' σ.nx b1 q→fp y=some q:=fun hq=>by
  rcases hq with hq|⟨hq,_⟩
  ·rwa[xU]at hq
  ·have:U9 b1=false:=N4 (Q2 q4)
   rw[this]at hq;cases hq
 have se:∀{q:Nat},fp y=some q→FP θ i (.row e sz ver l) q:=fun hq=>.inr ⟨hN,_,(q7 _ hq).2⟩
 have rQ:∀{q:Nat},FP θ' i b2 q→FP θ i (.row e sz ver l) q∧fp y≠some q:=fun {q} hq=>by
  rcases hq with hq|⟨_,p,hp⟩
  ·rw[sb i rN]at hq
   refine⟨.inl hq,fun hy=>(q7 q hy).1 ?_⟩
   rw[vV]at hq
   simp[fp]at hq
   exact hq.symm
  ·refine⟨.inr ⟨hN,p,zS q p hp⟩,fun hy=>?_⟩
   simp only[θ',if_pos,hy]at hp
   cases hp
 have ph:∀{j:Nat} {b:C6} {q:Nat},j≠i→j<σ.nx→FP θ' j b q→FP θ j b q:=fun hj lY hq=>by
  unfold FP at hq ⊢
  rwa[sb _ lY,vO _ hj]at hq
 have le:(cx E θ σ w).le (cx E θ' σ' w):=by
  refine⟨Nat.le_succ _,fun j hj=>.inl (sb j hj),fun j hj e2 nI v2 l2 hl=>?_,Nat.le_refl _,fun _ _ _=>rfl,fun q _ hu=>?_⟩
  ·have lw:j<σ.nx:=hj
   have mM:A5 σ'.hp j=some (.row e2 nI v2 l2):=hl
   rw[li,if_neg (by omega)]at mM
   by_cases ei:i=j
   ·subst ei
    rw[if_pos rfl]at mM
    have mM:some (C6.row e sz ver (l.set k (el.set off .any)))=some (.row e2 nI v2 l2):=mM
    cases mM
    exact⟨e,ver,l,hb,.inr ⟨rfl,by simp,sb i rN⟩⟩
   ·rw[if_neg ei]at mM
    exact⟨e2,v2,l2,mM,.inr ⟨rfl,rfl,sb j lw⟩⟩
  ·rcases hu with hu|⟨j,b,hj,hq⟩
   ·exact .inl hu
   ·have lw:A5 σ'.hp j=some b:=hj
    rw[li]at lw
    by_cases en:σ.nx=j
    ·subst en
     rw[if_pos rfl]at lw
     cases lw
     exact .inr ⟨i,_,hb,se (wJ hq)⟩
    ·rw[if_neg en]at lw
     by_cases ei:i=j
     ·subst ei
      rw[if_pos rfl]at lw
      cases lw
      exact .inr ⟨i,_,hb,(rQ hq).1⟩
     ·rw[if_neg ei]at lw
      exact .inr ⟨j,b,lw,ph (Ne.symm ei) (h.owns j b lw).1 hq⟩
 refine⟨g,n',cap,y,θ',vV,q2,xU,h.size,h.defers,h.fr,fun s x hs=>(h.slots s x hs).mono le,fun j b hj=>?_,fun j1 j2 c1 c2 q h1 h2 qe nC=>?_,fun j b q hj hq=>?_,h.X,⟨Nat.le_succ_of_le h.base.1,fun j hj=>?_⟩⟩
 ·have lw:A5 σ'.hp j=some b:=hj
  rw[li]at lw
  by_cases en:σ.nx=j
  ·subst en
   rw[if_pos rfl]at lw
   cases lw
   refine⟨Nat.lt_succ_self _,ys,?_,q5,fun k el hk j x hx=>?_,.lt (Q2 q4)⟩
   ·show R7 w e' lb (θ' σ.nx) m.length ys
    rw[xU];exact q3
   ·obtain⟨z,hz,hi⟩:=q6 k el hk j x hx
    exact⟨z,hz,hi.mono le.heap le.U⟩
  ·rw[if_neg en]at lw
   by_cases ei:i=j
   ·subst ei
    rw[if_pos rfl]at lw
    cases lw
    refine⟨Nat.lt_succ_of_lt rN,xs,?_,fun rC pu=>?_,fun k2 rC lg j2 x2 ox=>?_,fun _=>⟨fun b p hp=>uU b p (zS b p hp),fun k2 rC lg j2 e2 nI m2 oP=>?_⟩⟩
    ·show R7 w e sz (θ' i) _ xs
     rw[sb i rN,List.length_set];exact ho
    ·rcases List.mem_or_eq_of_mem_set pu with h2|h2
     ·exact hsz _ h2
     ·rw[h2,List.length_set];exact hsz el (List.mem_of_getElem? hk)
    ·by_cases ek:k=k2
     ·subst ek
      rw[List.getElem?_set_self lk]at lg
      cases lg
      by_cases ej:off=j2
      ·subst ej
       obtain⟨z,hz,hi⟩:=mY k el hk off _ wQ
       have lY:off<el.length:=(List.getElem?_eq_some_iff.1 wQ).1
       rw[List.getElem?_set_self lY]at ox
       cases ox
       exact⟨z,hz,.any _⟩
      ·rw[List.getElem?_set_ne ej]at ox
       obtain⟨z,hz,hi⟩:=mY k el hk j2 x2 ox
       exact⟨z,hz,hi.mono le.heap le.U⟩
     ·rw[List.getElem?_set_ne ek]at lg
      obtain⟨z,hz,hi⟩:=mY k2 rC lg j2 x2 ox
      exact⟨z,hz,hi.mono le.heap le.U⟩
    ·obtain⟨pV,g1,g2,g3⟩:=Vj (P:=fun q=>q≠k*sz+off) hk hsz nQ (av:=.any) rfl (fun q hq=>hq) k2 rC lg j2 e2 nI m2 oP
     obtain⟨g',n2,pd,y2,xa,r1,r2,r3,r4,r5,r6,r7⟩:=uG k2 pV g1 j2 e2 nI m2 g2
     refine⟨g',n2,pd,y2,xa,(sb i rN).trans r1,r2,r3,r4,r5,fun q mx hq j' x hx=>?_,fun b mC=>⟨(r7 b mC).1,?_⟩⟩
     ·obtain⟨z,hz,hi⟩:=r6 q mx hq j' x hx
      exact⟨z,hz,hi.mono le.heap le.U⟩
     ·show θ'.N i b=_
      have h3:=(r7 b mC).2
      have uJ:fp y≠some b:=fun hy=>by
       have h4:=(q7 b hy).2
       rw[h4]at h3
       exact g3 (Option.some.inj h3).symm
      simp only[θ',if_pos,if_neg uJ]
      exact h3
   ·rw[if_neg ei]at lw
    obtain⟨h1,h2⟩:=h.owns j b lw
    exact⟨Nat.lt_succ_of_lt h1,h2.mono le (sb j h1) (fun q=>congrFun (vO j (Ne.symm ei)) q) fun _ _=>rfl⟩
 ·have mJ:A5 σ'.hp j1=some c1:=h1
  have mR:A5 σ'.hp j2=some c2:=h2
  rw[li]at mJ mR
  by_cases n1:σ.nx=j1<;>by_cases n2:σ.nx=j2
  ·omega
  ·subst n1
   rw[if_pos rfl]at mJ
   rw[if_neg n2]at mR
   cases mJ
   have hy:=wJ qe
   by_cases ei:i=j2
   ·subst ei
    rw[if_pos rfl]at mR
    cases mR
    exact absurd hy (rQ nC).2
   ·rw[if_neg ei]at mR
    exact absurd (h.apart i j2 _ c2 q hb mR (se hy) (ph (Ne.symm ei) (h.owns j2 c2 mR).1 nC)) ei
  ·subst n2
   rw[if_pos rfl]at mR
   rw[if_neg n1]at mJ
   cases mR
   have hy:=wJ nC
   by_cases ei:i=j1
   ·subst ei
    rw[if_pos rfl]at mJ
    cases mJ
    exact absurd hy (rQ qe).2
   ·rw[if_neg ei]at mJ
    exact absurd (h.apart i j1 _ c1 q hb mJ (se hy) (ph (Ne.symm ei) (h.owns j1 c1 mJ).1 qe)) ei
  ·rw[if_neg n1]at mJ
   rw[if_neg n2]at mR
   by_cases e1:i=j1<;>by_cases e2:i=j2
   ·omega
   ·subst e1
    rw[if_pos rfl]at mJ
    rw[if_neg e2]at mR
    cases mJ
    exact h.apart i j2 _ c2 q hb mR (rQ qe).1 (ph (Ne.symm e2) (h.owns j2 c2 mR).1 nC)
   ·subst e2
    rw[if_pos rfl]at mR
    rw[if_neg e1]at mJ
    cases mR
    exact h.apart j1 i c1 _ q mJ hb (ph (Ne.symm e1) (h.owns j1 c1 mJ).1 qe) (rQ nC).1
   ·rw[if_neg e1]at mJ
    rw[if_neg e2]at mR
    exact h.apart j1 j2 c1 c2 q mJ mR (ph (Ne.symm e1) (h.owns j1 c1 mJ).1 qe) (ph (Ne.symm e2) (h.owns j2 c2 mR).1 nC)
 ·have lw:A5 σ'.hp j=some b:=hj
  rw[li]at lw
  by_cases en:σ.nx=j
  ·subst en
   rw[if_pos rfl]at lw
   cases lw
   exact h.mine i _ q hb (se (wJ hq))
  ·rw[if_neg en]at lw
   by_cases ei:i=j
   ·subst ei
    rw[if_pos rfl]at lw
    cases lw
    exact h.mine i _ q hb (rQ hq).1
   ·rw[if_neg ei]at lw
    exact h.mine j b q lw (ph (Ne.symm ei) (h.owns j b lw).1 hq)
 ·have rl:=h.base.1
  rw[sb j (by omega)]
  refine(h.base.2 j hj).imp id fun ⟨h1,h2⟩=>⟨h1,fun ⟨e2,nI,v2,l2,hl,nH⟩=>h2 ?_⟩
  have mM:A5 σ'.hp j=some (.row e2 nI v2 l2):=hl
  rw[li,if_neg (by omega)]at mM
  by_cases ei:i=j
  ·subst ei
   rw[if_pos rfl]at mM
   have mM:some (C6.row e sz ver (l.set k (el.set off .any)))=some (.row e2 nI v2 l2):=mM
   cases mM
   exact⟨_,_,_,_,hb,nH⟩
  ·rw[if_neg ei]at mM
   exact⟨_,_,_,_,mM,nH⟩
theorem J5.give{i ver k off e sz e' lb m vm g n' cap:Nat}{l l2:List (List AV)}{el:List AV}{w':World}{lc:Array Value}(h:J5 E n θ σ a w)(hb:A5 σ.hp i=some (.row e sz ver l))(hE:J9≤e)(hk:l[k]?=some el)(nQ:off<sz)
  (hm:A5 σ.hp m=some (.row e' lb vm l2)) (ot:e'<J4) (rS:m≠i) (hθ:θ i=.slice (some ⟨g,0,none⟩) n' cap) (hg:L7 w g lc e) (qY:k*sz+off<l.length*sz) (hw:w'=w.setRow g (lc.setIfInBounds (k*sz+off) (θ m))) :
  ∃θ',J5 E n θ' ⟨σ.sl,σ.nx,(m,none)::(i,some (.row e sz ver (l.set k (el.set off (.own e' lb l2)))))::σ.hp⟩ a w':=by
 obtain⟨mE,xs,ho,hsz,mY,hne⟩:=h.owns i _ hb
 obtain⟨oV,ys,vL,tM,xH,_⟩:=h.owns m _ hm
 obtain⟨uU,uG⟩:=hne hE
 have lk:k<l.length:=(List.getElem?_eq_some_iff.1 hk).1
 have hN:U9 (.row e sz ver l)=true:=MU hE
 have qS:w'.os=w.os:=by rw[hw];rfl
 have lj:w'.heap.size=w.heap.size:=by rw[hw];simp
 have hh:∀q,q≠g→w'.heap[q]?=w.heap[q]?:=fun q hq=>by rw[hw];exact setRow_other w g q _ hq
 have mz:∀q,q≠k*sz+off→w'.cell? ⟨g,q,none⟩=w.cell? ⟨g,q,none⟩:=fun q hq=>by rw[hw];exact Rm hg q hq
 let P0:=k*sz+off
 let θ':Th:=⟨θ.v,fun j b=>if j=i then (if fp (θ m)=some b then some P0 else θ.N i b)else θ.N j b⟩
 let b2:C6:=.row e sz ver (l.set k (el.set off (.own e' lb l2)))
 let σ':St:=⟨σ.sl,σ.nx,(m,none)::(i,some b2)::σ.hp⟩
 have li:∀j,A5 σ'.hp j=if m=j then none else if i=j then some b2 else A5 σ.hp j:=fun j=>by simp only[σ',G4]
 have vO:∀j,j≠i→θ'.N j=θ.N j:=fun j hj=>by simp only[θ',if_neg hj]
 have hmb:U9 (.row e' lb vm l2)=false:=N4 (Q2 ot)
 have rQ:∀{q:Nat},FP θ' i b2 q→FP θ i (.row e sz ver l) q∨fp (θ m)=some q:=fun {q} hq=>by
  rcases hq with hq|⟨_,p,hp⟩
  ·exact .inl (.inl hq)
  ·simp only[θ',if_pos]at hp
   split at hp
   ·rename_i hq;exact .inr hq
   ·exact .inl (.inr ⟨hN,p,hp⟩)
 have ph:∀{j:Nat} {b:C6} {q:Nat},j≠i→FP θ' j b q→FP θ j b q:=fun hj hq=>by
  unfold FP at hq ⊢
  rwa[vO _ hj]at hq
 have uc:FP θ i (.row e sz ver l) g:=.inl (by rw[hθ];rfl)
 have ye:∀q,fp (θ m)=some q→q≠g:=fun q hq e2=>rS (h.apart m i _ _ q hm hb (.inl hq) (by rw[e2];exact uc))
 have le:(cx E θ σ w).le (cx E θ' σ' w'):=by
  refine⟨Nat.le_refl _,fun j hj=>.inl rfl,fun j hj e2 nI v2 l3 hl=>?_,by rw[show (cx E θ' σ' w').w=w' from rfl,lj];exact Nat.le_refl _,fun q hq hu=>hh q fun e2=>hu (.inr ⟨i,_,hb,by rw[e2];exact uc⟩),fun q _ hu=>?_⟩
  ·have mM:A5 σ'.hp j=some (.row e2 nI v2 l3):=hl
   rw[li]at mM
   by_cases em:m=j
   ·rw[if_pos em]at mM;cases mM
   ·rw[if_neg em]at mM
    by_cases ei:i=j
    ·subst ei
     rw[if_pos rfl]at mM
     have mM:some (C6.row e sz ver (l.set k (el.set off (.own e' lb l2))))=some (.row e2 nI v2 l3):=mM
     cases mM
     exact⟨e,ver,l,hb,.inr ⟨rfl,by simp,rfl⟩⟩
    ·rw[if_neg ei]at mM
     exact⟨e2,v2,l3,mM,.inr ⟨rfl,rfl,rfl⟩⟩
  ·rcases hu with hu|⟨j,b,hj,hq⟩
   ·exact .inl hu
   ·have lw:A5 σ'.hp j=some b:=hj
    rw[li]at lw
    by_cases em:m=j
    ·rw[if_pos em]at lw;cases lw
    ·rw[if_neg em]at lw
     by_cases ei:i=j
     ·subst ei
      rw[if_pos rfl]at lw
      cases lw
      rcases rQ hq with h1|h1
      ·exact .inr ⟨i,_,hb,h1⟩
      ·exact .inr ⟨m,_,hm,.inl h1⟩
     ·rw[if_neg ei]at lw
      exact .inr ⟨j,b,lw,ph (Ne.symm ei) hq⟩
 have xB:∀{j:Nat} {b:C6} {q:Nat},j≠i→A5 σ.hp j=some b→FP θ j b q→q≠g:=fun zd hj hq e2=>zd (h.apart _ i _ _ _ hj hb hq (by rw[e2];exact uc))
 refine⟨θ',h.size,h.defers.mono fun q hd=>hh q fun e2=>(h.owns i _ hb).2.nodf uc (e2▸hd),⟨qS.trans h.fr.os,by rw[hw];exact h.fr.tape,by rw[hw];exact h.fr.output,by rw[lj];exact h.fr.size,fun q hq hO=>?_⟩,fun s x hs=>(h.slots s x hs).mono le,fun j b hj=>?_,fun j1 j2 c1 c2 q h1 h2 qe nC=>?_,fun j b q hj hq=>?_,h.X,⟨h.base.1,fun j hj=>?_⟩⟩
 ·rw[hh q fun e2=>?_]
  ·exact h.fr.block q hq hO
  ·rcases(h.mine i _ g hb uc).2 with h2|h2
   ·exact hO (e2▸h2)
   ·omega
 ·have lw:A5 σ'.hp j=some b:=hj
  rw[li]at lw
  by_cases em:m=j
  ·rw[if_pos em]at lw;cases lw
  ·rw[if_neg em]at lw
   by_cases ei:i=j
   ·subst ei
    rw[if_pos rfl]at lw
    cases lw
    have hxs:xs[P0]?=some (xs[P0]'(by rw[ho.1];exact qY)):=List.getElem?_eq_getElem _
    refine⟨mE,xs.set P0 (θ m),?_,fun rC pu=>?_,fun k2 rC lg j2 x2 ox=>?_,fun _=>⟨fun b p hp=>?_,fun k2 rC lg j2 e2 nI m2 oP=>?_⟩⟩
    ·show R7 w' e sz (θ i) _ _
     refine⟨by rw[List.length_set,List.length_set];exact ho.1,?_⟩
     rcases ho.2 with ⟨hn,_⟩|⟨g',mn,rk,r1,r2,r3,r4,r5,r6,r7⟩
     ·rw[show (cx E θ σ w).θ i=θ i from rfl,hθ]at hn;cases hn
     ·have qN:θ i=.slice (some ⟨g',0,none⟩) l.length mn:=r1
      have eg:g'=g:=by rw[hθ]at qN;injection qN with e1 e2;injection e1 with e1;injection e1 with e1;exact e1.symm
      subst eg
      have ec:rk=lc:=by
       obtain⟨_,_,s1,_⟩:=r3.some
       obtain⟨_,_,s2,_⟩:=hg.some
       have vW:w.heap[g']?=_:=s1
       rw[s2]at vW
       injection vW with s3
       injection s3 with s3
       exact s3.symm
      subst ec
      have zm:L7 w' g' (rk.setIfInBounds (k*sz+off) (θ m)) e:=by rw[hw];exact hg.set
      exact .inr ⟨g',mn,rk.setIfInBounds (k*sz+off) (θ m),by rw[List.length_set];exact qN,.ge hE,zm,by rw[List.length_set];exact r4,r5,by simp[r6],by rw[List.length_set,Array.toList_setIfInBounds,←r7,List.take_set]⟩
    ·rcases List.mem_or_eq_of_mem_set pu with h2|h2
     ·exact hsz _ h2
     ·rw[h2,List.length_set];exact hsz el (List.mem_of_getElem? hk)
    ·obtain⟨z,hz,hR⟩:=Iq (R:=fun x y=>∃y0,Im (cx E θ σ w).U w x y0∧y=y0) (v:=θ m) hk hsz ho.1 nQ (fun k el hk j x hx=>by
      obtain⟨y,hy,hi⟩:=mY k el hk j x hx
      exact⟨y,hy,y,hi,rfl⟩) ⟨θ m,.own e' lb l2 _,rfl⟩ k2 rC lg j2 x2 ox
     obtain⟨y0,hi,rfl⟩:=hR
     exact⟨z,hz,hi.mono le.heap le.U⟩
    ·show Ch w' b
     have mc:∀q,Ch w q→Ch w' q:=fun q hq=>by
      by_cases e2:q=g
      ·subst e2
       obtain⟨t,fz,sC,_⟩:=hg.some
       exact⟨_,t,fz,by rw[hw];exact setRow_heap w q lc _ t _ sC⟩
      ·exact hq.mono (hh q e2)
     have rz:θ'.N i b=some p:=hp
     simp only[θ',if_pos]at rz
     split at rz
     ·rename_i hq
      refine mc b ?_
      rcases vL.2 with ⟨h1,_⟩|⟨q2,pd,rZ,h1,_,h3,_⟩
      ·rw[show θ m=(cx E θ σ w).θ m from rfl,h1]at hq;cases hq
      ·rw[show θ m=(cx E θ σ w).θ m from rfl,h1]at hq
       simp[fp]at hq
       subst hq
       obtain⟨t,fz,h4,_⟩:=h3.some
       exact⟨_,_,_,h4⟩
     ·exact mc b (uU b p rz)
    ·by_cases ek:k=k2∧off=j2
     ·obtain⟨rfl,rfl⟩:=ek
      rw[List.getElem?_set_self lk]at lg
      cases lg
      have lY:off<el.length:=by rw[hsz el (List.mem_of_getElem? hk)];exact nQ
      rw[List.getElem?_set_self lY]at oP
      cases oP
      refine⟨g,n',cap,θ m,ys,hθ,?_,⟨vL.1,vL.2.imp id fun ⟨p,cp,rZ,r1,r2,r3,r4⟩=>⟨p,cp,rZ,r1,.lt (k6 ot),r3.mono (hh p (ye p (by rw[show θ m=(cx E θ σ w).θ m from rfl,r1];rfl))),r4⟩⟩,ot,tM,fun q mx hq j' x hx=>?_,fun b mC=>⟨ye b mC,?_⟩⟩
      ·show w'.cell? _=_
       obtain⟨t,fz,sC,_⟩:=hg.some
       rw[hw,J8 (setRow_heap w g lc _ t _ sC)]
       have px:k*sz+off<lc.size:=by
        rcases ho.2 with ⟨hn,_⟩|⟨g',mn,rk,r1,r2,r3,r4,r5,r6,r7⟩
        ·rw[show (cx E θ σ w).θ i=θ i from rfl,hθ]at hn;cases hn
        ·have qN:θ i=.slice (some ⟨g',0,none⟩) l.length mn:=r1
         have eg:g'=g:=by rw[hθ]at qN;injection qN with e1 e2;injection e1 with e1;injection e1 with e1;exact e1.symm
         subst eg
         obtain⟨_,_,s1,_⟩:=r3.some
         have vW:w.heap[g']?=_:=s1
         rw[sC]at vW
         injection vW with s3
         injection s3 with s3
         rw[s3,r6]
         have:=Nat.mul_le_mul_right sz r4
         omega
       simp[px]
      ·obtain⟨z,hz,hi⟩:=xH q mx hq j' x hx
       exact⟨z,hz,hi.mono le.heap le.U⟩
      ·show θ'.N i b=_
       simp only[θ',if_pos,mC]
       rfl
     ·have key:∃pV,l[k2]?=some pV∧pV[j2]?=some (.own e2 nI m2)∧k2*sz+j2≠k*sz+off:=by
       by_cases e1:k=k2
       ·subst e1
        rw[List.getElem?_set_self lk]at lg
        cases lg
        have e3:off≠j2:=fun e3=>ek ⟨rfl,e3⟩
        rw[List.getElem?_set_ne e3]at oP
        exact⟨el,hk,oP,by omega⟩
       ·rw[List.getElem?_set_ne e1]at lg
        have zh:j2<sz:=by rw[←hsz rC (List.mem_of_getElem? lg)];exact(List.getElem?_eq_some_iff.1 oP).1
        exact⟨rC,lg,oP,Vi zh nQ e1⟩
      obtain⟨pV,g1,g2,g3⟩:=key
      obtain⟨g',n2,pd,y2,xa,r1,r2,r3,r4,r5,r6,r7⟩:=uG k2 pV g1 j2 e2 nI m2 g2
      have qN:θ i=.slice (some ⟨g',0,none⟩) n2 pd:=r1
      have eg:g'=g:=by rw[hθ]at qN;injection qN with e1 e2;injection e1 with e1;injection e1 with e1;exact e1.symm
      subst eg
      refine⟨g',n2,pd,y2,xa,qN,(mz _ g3).trans r2,⟨r3.1,r3.2.imp id fun ⟨p,cp,rZ,s1,s2,s3,s4⟩=>⟨p,cp,rZ,s1,.lt (k6 r4),s3.mono (hh p (r7 p (by rw[s1];rfl)).1),s4⟩⟩,r4,r5,fun q mx hq j' x hx=>?_,fun b mC=>⟨(r7 b mC).1,?_⟩⟩
      ·obtain⟨z,hz,hi⟩:=r6 q mx hq j' x hx
       exact⟨z,hz,hi.mono le.heap le.U⟩
      ·show θ'.N i b=_
       have h3:=(r7 b mC).2
       have uJ:fp (θ m)≠some b:=fun hy=>rS (h.apart m i _ _ b hm hb (.inl hy) (.inr ⟨hN,_,h3⟩))
       simp only[θ',if_pos,if_neg uJ]
       exact h3
   ·rw[if_neg ei]at lw
    obtain⟨h1,h2⟩:=h.owns j b lw
    exact⟨h1,h2.mono le rfl (fun q=>congrFun (vO j (Ne.symm ei)) q) fun q hq=>hh q (xB (Ne.symm ei) lw hq)⟩
 ·have mJ:A5 σ'.hp j1=some c1:=h1
  have mR:A5 σ'.hp j2=some c2:=h2
  rw[li]at mJ mR
  by_cases n1:m=j1
  ·rw[if_pos n1]at mJ;cases mJ
  ·by_cases n2:m=j2
   ·rw[if_pos n2]at mR;cases mR
   ·rw[if_neg n1]at mJ
    rw[if_neg n2]at mR
    by_cases e1:i=j1<;>by_cases e2:i=j2
    ·omega
    ·subst e1
     rw[if_pos rfl]at mJ
     rw[if_neg e2]at mR
     cases mJ
     rcases rQ qe with h3|h3
     ·exact h.apart i j2 _ c2 q hb mR h3 (ph (Ne.symm e2) nC)
     ·exact absurd (h.apart m j2 _ c2 q hm mR (.inl h3) (ph (Ne.symm e2) nC)) n2
    ·subst e2
     rw[if_pos rfl]at mR
     rw[if_neg e1]at mJ
     cases mR
     rcases rQ nC with h3|h3
     ·exact h.apart j1 i c1 _ q mJ hb (ph (Ne.symm e1) qe) h3
     ·exact absurd (h.apart m j1 _ c1 q hm mJ (.inl h3) (ph (Ne.symm e1) qe)) n1
    ·rw[if_neg e1]at mJ
     rw[if_neg e2]at mR
     exact h.apart j1 j2 c1 c2 q mJ mR (ph (Ne.symm e1) qe) (ph (Ne.symm e2) nC)
 ·have lw:A5 σ'.hp j=some b:=hj
  rw[li]at lw
  by_cases em:m=j
  ·rw[if_pos em]at lw;cases lw
  ·rw[if_neg em]at lw
   by_cases ei:i=j
   ·subst ei
    rw[if_pos rfl]at lw
    cases lw
    rcases rQ hq with h3|h3
    ·exact h.mine i _ q hb h3
    ·exact h.mine m _ q hm (.inl h3)
   ·rw[if_neg ei]at lw
    exact h.mine j b q lw (ph (Ne.symm ei) hq)
 ·refine(h.base.2 j hj).imp id fun ⟨h1,h2⟩=>⟨h1,fun ⟨e2,nI,v2,l3,hl,nH⟩=>h2 ?_⟩
  have mM:A5 σ'.hp j=some (.row e2 nI v2 l3):=hl
  rw[li]at mM
  by_cases em:m=j
  ·rw[if_pos em]at mM;cases mM
  ·rw[if_neg em]at mM
   by_cases ei:i=j
   ·subst ei
    rw[if_pos rfl]at mM
    have mM:some (C6.row e sz ver (l.set k (el.set off (.own e' lb l2))))=some (.row e2 nI v2 l3):=mM
    cases mM
    exact⟨_,_,_,_,hb,nH⟩
   ·rw[if_neg ei]at mM
    exact⟨_,_,_,_,mM,nH⟩
end ghost
section rules
variable {P:Program} {E:Env} {n:Nat} {ops:Array Oper} {rest:List Oper} {σ:St} {K:St→Prop} {ty:TypeId} {pos:String} {after:Array Edge} {x y:Operand}
theorem Fz{d T szT:Nat}[tv:G6 P T false szT]{i ver k off e sz e' lb:Nat}{l m:List (List AV)}{el:List AV}(hk:l[k]?=some el)(hx:F3 σ x=some (.elt i ver k off))(hb:A5 σ.hp i=some (.row e sz ver l))(hE:Nat.ble J9 e=true)(hj:el[off]?=some (.own e' lb m))(hd:Nat.blt d n=true)
  (kk:B2 P E n ops rest (St.put ⟨σ.sl,σ.nx+1,(σ.nx,some (.row e' lb 0 m))::(i,some (.row e sz ver (l.set k (el.set off .any))))::σ.hp⟩ d (.row σ.nx 0 m.length)) K):B2 P E n ops (⟨some d,.load T x,ty,pos,after,none⟩::rest) σ K:=by
 intro a w ⟨θ,hs⟩
 obtain⟨g,n',cap,hθ,hv,_⟩:=CU (hs.evT.rel hx) hb
 obtain⟨g2,n2,pd,y,θ',h1,h2,h3,h4⟩:=hs.take hb (Nat.ble_eq▸hE) hk hj
 have mv:θ i=.slice (some ⟨g,0,none⟩) n' cap:=hθ
 have eg:g2=g:=by rw[mv]at h1;injection h1 with e1 e2;injection e1 with e1;injection e1 with e1;exact e1.symm
 subst eg
 unfold wpList
 rw[if_pos (by simp[Region.wanted])]
 left
 have hex:(execOp a.eval ⟨some d,.load T x,ty,pos,after,none⟩).run P w=.ok (.value y) w:=by
  simp only[execOp,hv,Instr.loadAt,Instr.sureAddr,Sem.run_bind,Sem.run_pure,Result.andThen_ok]
  rw[Ap (P:=P) (sz:=szT) (v:=y) h2]
  rfl
 simp only[Oper.wp,hex,Oper.upon]
 refine kk _ _ ⟨_,h4.put (Nat.blt_eq▸hd) (.row _ _ _ _ (Nat.lt_succ_self _) fun e2 nI v2 l2 mO=>?_)⟩
 simp only[cx,G4,if_pos]at mO
 cases mO
 exact⟨Nat.le_refl _,fun _=>⟨rfl,h3.symm⟩⟩
theorem GA{T szT:Nat}[tv:G6 P T false szT]{i ver k off e sz e' lb m vm len:Nat}{l l2:List (List AV)}{el:List AV}(hk:l[k]?=some el)(hx:F3 σ x=some (.elt i ver k off))(hy:F3 σ y=some (.row m vm len))(hb:A5 σ.hp i=some (.row e sz ver l))(hE:Nat.ble J9 e=true)
  (hm:A5 σ.hp m=some (.row e' lb vm l2)) (ot:Nat.blt e' J4=true) (rS:Nat.beq m i=false) (nQ:Nat.blt off sz=true) (yI:szT=1)
  (kk:B2 P E n ops rest ⟨σ.sl,σ.nx,(m,none)::(i,some (.row e sz ver (l.set k (el.set off (.own e' lb l2)))))::σ.hp⟩ K):B2 P E n ops (⟨none,.store T x y,ty,pos,after,none⟩::rest) σ K:=by
 intro a w ⟨θ,hs⟩
 obtain⟨g,n',cap,hθ,hv,_⟩:=CU (hs.evT.rel hx) hb
 obtain⟨_,ud,_⟩:=s7 (hs.evT.rel hy) hm
 obtain⟨xs,la,hsz,hr⟩:=hs.evT.row hb
 have mv:θ i=.slice (some ⟨g,0,none⟩) n' cap:=hθ
 have vH:a.eval y=θ m:=ud
 have lk:k<l.length:=(List.getElem?_eq_some_iff.1 hk).1
 have ho:=Nat.blt_eq▸nQ
 have pA:k*sz+off<l.length*sz:=by
  have:(k+1)*sz≤l.length*sz:=Nat.mul_le_mul_right _ lk
  rw[Nat.add_mul,Nat.one_mul]at this
  omega
 rcases la.2 with ⟨hn,_⟩|⟨g',mn,lc,r1,r2,r3,r4,r5,r6,r7⟩
 ·rw[mv]at hn;cases hn
 ·have qN:θ i=.slice (some ⟨g',0,none⟩) l.length mn:=r1
  have eg:g'=g:=by rw[mv]at qN;injection qN with e1 e2;injection e1 with e1;injection e1 with e1;exact e1.symm
  subst eg
  obtain⟨xm,vL,_⟩:=hs.evT.row hm
  have vX:(a.eval y).oneCell'=true:=by
   rw[vH]
   rcases vL.2 with ⟨h1,_⟩|⟨_,_,_,h1,_⟩<;>rw[h1]<;>rfl
  have mV:=Nat.mul_le_mul_right sz r4
  have mH:=IV (P:=P) (T:=T) (ag:=false) (sz:=szT) (v:=a.eval y) vX (Et vX) yI r3 (HC (Nat.ble_eq▸hE)) (off:=k*sz+off) (by omega)
  unfold wpList
  rw[if_pos (by simp[Region.wanted])]
  left
  have hex:=GI (ty:=ty) (pos:=pos) (after:=after) (o:=none) hv mH
  simp only[Oper.wp,hex,Oper.upon]
  have tl:m≠i:=fun e2=>by subst e2;simp at rS
  obtain⟨θ',h4⟩:=hs.give hb (Nat.ble_eq▸hE) hk ho hm (Nat.blt_eq▸ot) tl qN r3 pA rfl
  rw[vH]
  exact kk _ _ ⟨θ',by simpa [Act.put]using h4⟩
theorem Oz{d T e' sz:Nat}[ts:L8 P T e' sz]{i ver len e:Nat}{s:List (List AV)}{lo hi:Option Operand}{l h:Int}(hx:F3 σ x=some (.row i ver len))(hb:A5 σ.hp i=some (.row e sz ver s))(hl:Ar (F3 σ) 0 lo=some l)(hh:Ar (F3 σ) len hi=some h)(h0:0≤l)(h1:l≤h)(h2:h≤len)(hd:Nat.blt d n=true)
  (k:B2 P E n ops rest (σ.put d (.sub i ver l.toNat (h.toNat-l.toNat))) K):B2 P E n ops (⟨some d,.slice T x lo hi none,ty,pos,after,none⟩::rest) σ K :=
 Ij (E3 fun _ _ _ θ a w hs=>by
  obtain⟨hu,inf,mr,hsz⟩:=ts.out
  obtain⟨lX,hv,mE⟩:=s7 (hs.rel hx) hb
  obtain⟨xs,la,_⟩:=hs.row hb
  have mk:∀y,RS (θ i) sz l.toNat (h.toNat-l.toNat) y→D7 (kx E θ σ.nx σ.hp w) (.sub i ver l.toNat (h.toNat-l.toNat)) y:=fun y hy =>
   .sub _ _ _ _ y mE fun e2 nI v2 l2 mO=>by
    have:A5 σ.hp i=some (.row e2 nI v2 l2):=mO
    rw[hb]at this
    cases this
    exact⟨Nat.le_refl _,fun _=>⟨by omega,hy⟩⟩
  rcases la.2 with ⟨hn,rl⟩|⟨g,cap,lc,hg,_,_,hc,_⟩
  ·have mj:a.eval x=.slice none 0 0:=hv.trans hn
   have e0:len=0:=by omega
   subst e0
   have e1:h=0:=by omega
   have e2:l=0:=by omega
   subst e1;subst e2
   have mC:=Ck (P:=P) (isS:=true) (cap:=0) hs hl hh h0 h1 (by omega)
   refine⟨.slice none 0 0,?_,mk _ (.inl ⟨hn,rfl,rfl,rfl⟩)⟩
   simp only[execOp,mj,Instr.sliceAt,Instr.slice,Sem.run_bind,run_underlying hu,Result.andThen_ok,Option.map_none,mC,Sem.run_pure,sizeOf,typeInfo,program,Sem.run,mr]
   rfl
  ·have mj:a.eval x=.slice (some ⟨g,0,none⟩) s.length cap:=hv.trans hg
   rw[lX]at mj
   have mC:=Ck (P:=P) (isS:=true) (cap:=cap) hs hl hh h0 h1 (by omega)
   refine⟨_,?_,mk (.slice (some (if cap=l.toNat then ⟨g,0,none⟩else ⟨g,l.toNat*sz,none⟩)) (h.toNat-l.toNat) (cap-l.toNat)) (.inr ⟨g,_,cap,hg,rfl⟩)⟩
   simp only[execOp,mj,Instr.sliceAt,Instr.slice,Sem.run_bind,run_underlying hu,Result.andThen_ok,Option.map_none,mC,Sem.run_pure,sizeOf,typeInfo,program,Sem.run,mr,hsz,Option.map_some,H3,Nat.zero_add]
   split
   ·rfl
   ·simp only[Option.map,H3,Nat.zero_add]) hd k
theorem WO{c:Cx}{i ver lo len:Nat}{y:Value}(r:D7 c (.sub i ver lo len) y){e sz:Nat}{l:List (List AV)}(hl:A5 c.hp i=some (.row e sz ver l)):lo+len≤l.length∧RS (c.θ i) sz lo len y∧i<c.nx:=by
 cases r with
 |im hi=>cases hi
 |sub i ver lo len x hi h=>exact⟨((h e sz ver l hl).2 rfl).1,((h e sz ver l hl).2 rfl).2,hi⟩
theorem dN{d i ver m e sz:Nat}{l:List (List AV)}(hd:look σ.sl d=some (.sub i ver 0 m))(hb:A5 σ.hp i=some (.row e sz ver l))(mW:e<J4)(hsz:0<sz):St.le E n σ ((σ.set i (.row e sz (ver+1) (l.take m))).put d (.row i (ver+1) m)):=by
 rintro a w ⟨θ,h⟩
 obtain⟨hm,hv,mE⟩:=WO (h.slots d _ hd) hb
 obtain⟨_,xs,ho,oZ,mY,_⟩:=h.owns i _ hb
 have ob:e<K8:=by unfold J4 at mW;unfold K8;omega
 have lX:(l.take m).length=m:=by rw[List.length_take];omega
 generalize hy:a.tmps.getD d undef=y at hv
 have mj:RS (θ i) sz 0 m y:=hv
 have pO:∃x m c,θ i=.slice x m c:=by
  rcases ho.2 with ⟨h1,_⟩|⟨g,cap,lc,h1,_⟩<;>exact⟨_,_,_,h1⟩
 have key:R7 w e sz y m (xs.take (m*sz))∧∀k,fp y=some k→fp (θ i)=some k:=by
  have uL:(xs.take (m*sz)).length=m*sz:=by
   rw[List.length_take,ho.1]
   have:=Nat.mul_le_mul_right sz (show m≤l.length by omega)
   omega
  rcases mj with ⟨h1,rfl,_,rfl⟩|⟨g,n',cap,h1,rfl⟩
  ·exact⟨⟨by simpa using uL,.inl ⟨rfl,rfl⟩⟩,fun k hk=>by cases hk⟩
  ·rcases ho.2 with ⟨h2,_⟩|⟨g',mn,lc,h2,h3,h4,h5,h6,h7,h8⟩
   ·have mR:θ i=.slice none 0 0:=h2
    rw[h1]at mR;cases mR
   ·have mR:θ i=.slice (some ⟨g',0,none⟩) l.length mn:=h2
    rw[h1]at mR
    cases mR
    have ea:(if cap=0 then (⟨g,0,none⟩:Addr)else ⟨g,0*sz,none⟩)=⟨g,0,none⟩:=by split<;>simp
    rw[ea,Nat.sub_zero]
    refine⟨⟨uL,.inr ⟨g,cap,lc,rfl,.lt (k6 mW),h4,by omega,h6,h7,?_⟩⟩,fun k hk=>by rw[h1];exact hk⟩
    rw[←h8,List.take_take]
    congr 1
    have:=Nat.mul_le_mul_right sz (show m≤l.length by omega)
    omega
 have ht:=h.turn (v':=y) (b':=.row e sz (ver+1) (l.take m)) (w':=w) (hkp:=fun _ _ _ _ h hk _=>by cases h;rw[HD mW]at hk;cases hk) (hne:=fun h=>by rw[N4 (Q2 mW)]at h;cases h) hb rfl rfl rfl (Nat.le_refl _) (fun _ _ _=>rfl) (fun k hk=>.inl (key.2 k hk))
  ⟨pO,e,ver,l,rfl,.inl (Nat.lt_succ_self _)⟩ fun le=>by
  refine⟨xs.take (m*sz),by simp only[cx,E8];rw[lX];exact key.1,fun el lU=>oZ el (List.mem_of_mem_take lU),fun k el hk j x hx=>?_,.lt (Q2 mW)⟩
  rw[List.getElem?_take]at hk
  split at hk
  ·rename_i qM
   obtain⟨z,hz,hi⟩:=mY k el hk j x hx
   refine⟨z,?_,hi.mono le.heap le.U⟩
   rw[List.getElem?_take,if_pos,hz]
   have hj:j<sz:=by rw[←oZ el (List.mem_of_getElem? hk)];exact(List.getElem?_eq_some_iff.1 hx).1
   have:(k+1)*sz≤m*sz:=Nat.mul_le_mul_right _ qM
   rw[Nat.add_mul,Nat.one_mul]at this
   omega
  ·cases hk
 refine⟨_,ht.size,ht.defers,ht.fr,fun s x hs=>?_,ht.owns,ht.apart,ht.mine,ht.X,ht.base⟩
 simp only[St.put,E6]at hs
 by_cases ed:d=s
 ·subst ed
  rw[if_pos rfl]at hs
  cases hs
  rw[hy]
  refine .row _ _ _ _ mE fun e' lb v2 l2 mO=>?_
  simp only[cx,St.put,St.set,G4,if_pos]at mO
  cases mO
  exact⟨Nat.le_refl _,fun _=>⟨lX,by simp[cx,E8]⟩⟩
 ·rw[if_neg ed]at hs
  exact ht.slots s x hs
end rules
end Go.Av
