/- Rows within rows of one's own. -/
import Derived.Test.YtjkbhaaobhgkdabGreatDoorRE3
set_option linter.unusedSimpArgs false
set_option linter.unusedVariables false
set_option linter.unnecessarySimpa false
set_option maxHeartbeats 64000000
namespace Go.Av
open Go Go.RowKit
section ghost
variable {E:Env} {n:Nat} {θ:Th} {σ:St} {a:Act} {w:World}
def Ht(θ:Th)(i:Nat)(M:Nat→Option Nat):Th:=⟨θ.v,fun j=>if j=i then M else θ.N j⟩
theorem bO(θ:Th)(i:Nat)(M:Nat→Option Nat):(Ht θ i M).N i=M:=by simp[Ht]
theorem Nu(θ:Th){i j:Nat}(M:Nat→Option Nat)(h:j≠i):(Ht θ i M).N j=θ.N j:=by simp[Ht,h]
theorem J0.reN(h:J0 E n θ σ a w)(i:Nat)(hni:∀b,A5 σ.hp i=some b→S8 b=false)(M:Nat→Option Nat):J0 E n (Ht θ i M) σ a w:=by
 have yB:∀{j:Nat} {b:C9} {k:Nat},A5 σ.hp j=some b→(FP (Ht θ i M) j b k↔FP θ j b k):=fun {j b k} hj=>by
  unfold FP
  by_cases e:j=i
  ·subst e
   rw[hni b hj]
   simp[Ht]
  ·rw[Nu _ _ e]
   rfl
 have le:(cx E θ σ w).le (cx E (Ht θ i M) σ w):=⟨Nat.le_refl _,fun j hj=>.inl rfl,fun j hj e' nU v' l' hl=>⟨e',v',l',hl,.inr ⟨rfl,rfl,rfl⟩⟩,Nat.le_refl _,fun _ _ _=>rfl,fun k hk hu=>by
  rcases hu with hu|⟨j,b,hj,oH⟩
  ·exact .inl hu
  ·exact .inr ⟨j,b,hj,(yB hj).1 oH⟩⟩
 refine⟨h.size,h.defers,h.fr,fun s x hs=>(h.slots s x hs).mono le,fun j b hj=>⟨(h.owns j b hj).1,?_⟩,fun j1 j2 b1 b2 k h1 h2 pk ni=>h.apart j1 j2 b1 b2 k h1 h2 ((yB h1).1 pk) ((yB h2).1 ni),fun j b k hj hk=>h.mine j b k hj ((yB hj).1 hk),h.X,h.base⟩
 by_cases e:j=i
 ·subst e
  have ho:=(h.owns j b hj).2
  have wD:=hni b hj
  cases b with
  |bx τ l=>exact ho.mono (c':=cx E θ σ w) ⟨Nat.le_refl _,fun j hj=>.inl rfl,fun j hj e' nU v' l' hl=>⟨e',v',l',hl,.inr ⟨rfl,rfl,rfl⟩⟩,Nat.le_refl _,fun _ _ _=>rfl,fun _ _ hu=>hu⟩ rfl (fun _=>rfl) (fun _ _=>rfl) |> fun ⟨b',ny,ty,q1,q2,q3,q4⟩=>⟨b',ny,ty,q1,q2,q3,fun j x y hx hy=>(q4 j x y hx hy).mono le⟩
  |row e1 se v1 l1 =>
   obtain⟨xs,q1,q2,q3,q4⟩:=ho
   refine⟨xs,q1,q2,fun k el hk j x hx=>?_,fun hE=>?_⟩
   ·obtain⟨y,hy,hi⟩:=q3 k el hk j x hx
    exact⟨y,hy,hi.mono le.heap le.U⟩
   ·have:S8 (.row e1 se v1 l1)=true:=Nat.ble_eq▸hE
    rw[wD]at this;cases this
  |map m =>
   obtain⟨r,es,clock,q1,q2,q3,q4⟩:=ho
   exact⟨r,es,clock,q1,q2,q3,fun j kx e hx he=>⟨(q4 j kx e hx he).1,(q4 j kx e hx he).2.mono le.heap le.U⟩⟩
  |it s p=>exact ho
 ·exact(h.owns j b hj).2.mono le rfl (fun k=>congrFun (Nu θ M e) k) fun _ _=>rfl
def Yd(x:AV):AV→Prop
 |.own e _ l=>x=.v (.slice none 0 0)∧l=[]∧e<H3
 |y=>x=y
def Fb:List AV→List AV→Prop
 |[],[]=>True
 |a::r,b::s=>Yd a b∧Fb r s
 |_,_=>False
theorem Fb.len:∀{l m:List AV},Fb l m→l.length=m.length
 |[],[],_=>rfl
 |_::_,_::_,h=>congrArg (·+1) h.2.len
theorem Fb.get:∀{l m:List AV},Fb l m→∀(j:Nat) y,m[j]?=some y→∃x,l[j]?=some x∧Yd x y
 |[],[],_,j,y,h=>by simp at h
 |a::r,b::s,h,j,y,hj=>by
  cases j with
  |zero=>simp at hj;subst hj;exact⟨a,rfl,h.1⟩
  |succ j=>simpa using h.2.get j y (by simpa using hj)
def Tk(l m:List (List AV)):Prop:=l.length=m.length∧∀(k:Nat) b,m[k]?=some b→∃a,l[k]?=some a∧Fb a b
theorem Ye{α:Type}{f g:α→List AV}{l:List α}(h:∀x∈l,Fb (f x) (g x)):Tk (l.map f) (l.map g):=by
 refine⟨by simp,fun k b hb=>?_⟩
 rw[List.getElem?_map,Option.map_eq_some_iff]at hb
 obtain⟨x,hx,rfl⟩:=hb
 exact⟨f x,by rw[List.getElem?_map,hx];rfl,h x (List.mem_of_getElem? hx)⟩
def Dv(F:Nat):Prop:=F=J1∨F=P3
theorem Dv.le{F e:Nat}(h:Dv F):J1≤F+e:=by rcases h with rfl|rfl<;>(try unfold P3 J1)<;>omega
theorem Dv.cell{F e:Nat}(h:Dv F)(he:e<H3):RJ (F+e)=e:=by
 rcases h with rfl|rfl
 ·unfold RJ
  rw[RM (by unfold H3 at he;unfold J1;omega),Bool.cond_false,RM (by unfold H3 at he;unfold J1;omega),Bool.cond_false,Mf (Nat.le_add_right _ _),Bool.cond_true,Nat.add_sub_cancel_left]
 ·unfold RJ
  rw[Mf (by unfold P3;omega),Bool.cond_true]
  unfold P3;omega
theorem Dv.ln{F e:Nat}(h:Dv F)(he:e<H3):FB (F+e)=false:=by
 cases hb:FB (F+e)with
 |false=>rfl
 |true =>
  simp only[FB,Bool.and_eq_true,Nat.ble_eq,Nat.blt_eq]at hb
  unfold H3 at he;unfold mS P3 at hb
  rcases h with rfl|rfl
  ·unfold J1 at hb;omega
  ·unfold P3 at hb;omega
theorem Yf{e:Nat}(he:e<H3):X7 (J1+e)=false:=by
 cases hb:X7 (J1+e)with
 |false=>rfl
 |true =>
  simp only[X7,Bool.or_eq_true,Bool.and_eq_true,Nat.ble_eq,Nat.blt_eq]at hb
  unfold H3 at he;unfold K8 J1 v7 P3 at hb;omega
theorem L6.to_nest{w:World}{g e F:Nat}{nV:Array Value}(h:L6 w g nV e)(he:e<H3)(hF:Dv F):L6 w g nV (F+e):=by
 refine .inr (.inr (.inl ⟨by have:=hF.le (e:=e);unfold J1 at this;unfold K8;omega,HG hF.le,?_⟩))
 rw[hF.cell he]
 rcases h with ⟨_,h⟩|⟨h,_⟩|⟨h,_⟩|⟨h,_⟩
 ·exact h
 ·omega
 ·unfold H3 at he;unfold K8 at h;omega
 ·rw[HF (j7 he)]at h;cases h
theorem L6.of_nest{w:World}{g e F:Nat}{nV:Array Value}(h:L6 w g nV (F+e))(he:e<H3)(hF:Dv F):L6 w g nV e:=by
 have:=hF.le (e:=e)
 refine .inl ⟨by unfold H3 at he;unfold K8;omega,?_⟩
 rcases h with ⟨h,_⟩|⟨_,h,_⟩|⟨_,_,h⟩|⟨h,_⟩
 ·unfold J1 at this;unfold K8 at h;omega
 ·unfold J1 at this;unfold K8 at h;omega
 ·rwa[hF.cell he]at h
 ·rw[HG this]at h;cases h
theorem Wm{i e sz v F:Nat}{l l':List (List AV)}(hF:Dv F)(hb:A5 σ.hp i=some (.row e sz v l))(hi:F=P3→E.n0≤i)(he:e<H3)(hl:Tk l l'):St.le E n σ (σ.set i (.row (F+e) sz v l')):=by
 rintro a w ⟨θ,h0⟩
 have h:=h0.reN i (fun b nt=>by rw[hb]at nt;cases nt;exact M5 (P4 he)) (fun _=>none)
 have pE:=hb
 obtain⟨_,xs,ho,hsz,oO,_⟩:=h.owns i _ hb
 generalize hθ:Ht θ i (fun _=>none)=θ1 at h ho oO
 have hN:∀k,θ1.N i k=none:=fun k=>by rw[←hθ,bO]
 have rA:∃x m c,θ1 i=.slice x m c:=by
  rcases ho.2 with ⟨h1,_⟩|⟨g,cap,nV,h1,_⟩<;>exact⟨_,_,_,h1⟩
 have sS:Q3 w (F+e) sz (θ1 i) l'.length xs:=by
  rw[←hl.1]
  exact⟨ho.1,ho.2.imp id fun ⟨g,cap,nV,h1,h2,h3,r⟩=>⟨g,cap,nV,h1,.ge hF.le,h3.to_nest he hF,r⟩⟩
 have ht:=h.turn (v':=θ1 i) (b':=.row (F+e) sz v l') (w':=w) (hkp:=fun e2 ov v2 l2 h1 h2 h3=>by
  cases h1
  rcases hF with rfl|rfl
  ·rw[Yf he]at h2;cases h2
  ·exact absurd (hi rfl) (by omega)) (hne:=fun _=>.inr hN) hb rfl rfl rfl (Nat.le_refl _) (fun _ _ _=>rfl) (fun k hk=>.inl hk) ⟨rA,e,v,l,rfl,.inr ⟨rfl,hl.1,rfl⟩⟩ fun le=>by
  refine⟨xs,by simp only[cx,E5];exact sS,fun el nN=>?_,fun k el hk j x hx=>?_,fun _=>⟨fun k p hk=>?_,fun k el hk j e' nU m hj=>?_⟩⟩
  ·obtain⟨k,hk⟩:=List.mem_iff_getElem?.1 nN
   obtain⟨a0,ha,hn⟩:=hl.2 k el hk
   rw[←hn.len];exact hsz a0 (List.mem_of_getElem? ha)
  ·obtain⟨a0,ha,hn⟩:=hl.2 k el hk
   obtain⟨x0,pb,h1⟩:=hn.get j x hx
   obtain⟨y,hy,hz⟩:=oO k a0 ha j x0 pb
   refine⟨y,hy,?_⟩
   cases x with
   |own e' nU m=>exact .own e' nU m y
   |_=>simp only[Yd]at h1;subst h1;exact hz.mono le.heap le.U
  ·have oH:θ1.N i k=some p:=hk
   rw[hN k]at oH;cases oH
  ·obtain⟨a0,ha,hn⟩:=hl.2 k el hk
   obtain⟨x0,pb,rfl,rfl,qh⟩:=hn.get j _ hj
   obtain⟨y,hy,hz⟩:=oO k a0 ha j _ pb
   cases hz
   rcases ho.2 with ⟨_,vo⟩|⟨g,cap,nV,h1,h2,h3,h4⟩
   ·rw[List.eq_nil_of_length_eq_zero vo]at ha;simp at ha
   ·have nT:=ho
    have oB:θ1 i=.slice (some ⟨g,0,none⟩) l.length cap:=h1
    rw[show (cx E θ1 σ w).θ i=θ1 i from rfl,oB]at nT
    have oL:=nT.cells (g:=g) rfl _ _ hy
    rw[G7,Nat.zero_add]at oL
    exact .inr ⟨g,l.length,cap,.slice none 0 0,[],by simp only[cx,E5];exact oB,oL,⟨by simp,.inl ⟨rfl,rfl⟩⟩,qh,(fun el nN=>by cases nN),(fun q og hq=>by simp at hq),fun b hb=>by cases hb⟩
 exact⟨_,ht⟩
def PD:AV→AV
 |.own _ sz l=>.sl sz l
 |x=>x
theorem Qb{i e sz v F:Nat}{l l':List (List AV)}(hF:Dv F)(hb:A5 σ.hp i=some (.row (F+e) sz v l))(he:e<H3)(hl:l'=l.map (·.map PD)):St.le E n σ (σ.set i (.row e sz v l')):=by
 subst hl
 rintro a w ⟨θ,h⟩
 obtain⟨nz,xs,ho,hsz,oO,hne⟩:=h.owns i _ hb
 have hE:=hF.le (e:=e)
 have hN:S8 (.row (F+e) sz v l)=true:=Mf hE
 have rA:∃x m c,θ i=.slice x m c:=by
  rcases ho.2 with ⟨h1,_⟩|⟨g,cap,nV,h1,_⟩<;>exact⟨_,_,_,h1⟩
 have sS:Q3 w e sz (θ i) (l.map (·.map PD)).length xs:=by
  rw[List.length_map]
  exact⟨ho.1,ho.2.imp id fun ⟨g,cap,nV,h1,h2,h3,r⟩=>⟨g,cap,nV,h1,.lt (j7 he),h3.of_nest he hF,r⟩⟩
 have ht:=h.turn (v':=θ i) (b':=.row e sz v (l.map (·.map PD))) (w':=w) (hkp:=fun e2 ov v2 l2 h1 h2 h3=>by
  cases h1
  rw[HH he]at h2;cases h2) (hne:=fun h=>by rw[M5 (P4 he)]at h;cases h) hb rfl rfl rfl (Nat.le_refl _) (fun _ _ _=>rfl) (fun k hk=>.inl hk) ⟨rA,F+e,v,l,rfl,.inr ⟨rfl,by simp,rfl⟩⟩ fun le=>by
  refine⟨xs,by simp only[cx,E5];exact sS,fun el nN=>?_,fun k el hk j x hx=>?_,.lt (P4 he)⟩
  ·obtain⟨e0,xB,rfl⟩:=List.mem_map.1 nN
   rw[List.length_map];exact hsz e0 xB
  ·rw[List.getElem?_map,Option.map_eq_some_iff]at hk
   obtain⟨rF,rp,rfl⟩:=hk
   rw[List.getElem?_map,Option.map_eq_some_iff]at hx
   obtain⟨x0,pb,rfl⟩:=hx
   obtain⟨y,hy,hz⟩:=oO k rF rp j x0 pb
   refine⟨y,hy,?_⟩
   cases x0 with
   |own e' nU m =>
    rcases(hne hE).2 k rF rp j e' nU m pb with ⟨q0,_⟩|⟨g,m',cap,y',ys,q1,q2,q3,q4,q5,q6,q7⟩
    ·rw[hF.ln he]at q0;cases q0
    have nT:=ho
    have xM:θ i=.slice (some ⟨g,0,none⟩) m' cap:=q1
    rw[show (cx E θ σ w).θ i=θ i from rfl,xM]at nT
    have oL:=nT.cells (g:=g) rfl _ _ hy
    rw[G7,Nat.zero_add]at oL
    rw[oL]at q2
    cases q2
    simp only[PD]
    rcases q3.2 with ⟨h1,h2⟩|⟨g2,qM,tN,h1,_,h3,h4,h5,h6,h7⟩
    ·rw[h1,List.eq_nil_of_length_eq_zero h2];exact .slnil nU
    ·have q3':=q3
     rw[h1]at q3' ⊢
     obtain⟨tY,hNg⟩:=q7 g2 (by rw[h1];rfl)
     have wm:¬(cx E (upd θ i (θ i)) (σ.set i (.row e sz v (l.map (·.map PD)))) w).U g2:=by
      rintro (hx|⟨j2,b2,qH,ni⟩)
      ·exact(h.mine i _ g2 hb (.inr ⟨hN,_,hNg⟩)).1 hx
      ·simp only[cx,St.set,F4]at qH
       by_cases e2:i=j2
       ·subst e2
        rw[if_pos rfl]at qH
        cases qH
        rcases ni with ni|⟨ni,_⟩
        ·simp only[cx,E5]at ni
         rw[xM]at ni
         simp[fp]at ni
         exact tY ni.symm
        ·rw[M5 (P4 he)]at ni;cases ni
       ·rw[if_neg e2]at qH
        refine e2 (h.apart i j2 _ b2 g2 hb qH (.inr ⟨hN,_,hNg⟩) ?_)
        unfold FP at ni ⊢
        simpa only[cx,N2 _ _ (Ne.symm e2),Me]using ni
     have pB:∀i,i<m.length→∀j,j<nU→∃y,ys[i*nU+j]?=some y:=by
      intro i hi j hj
      have h1:(i+1)*nU≤m.length*nU:=Nat.mul_le_mul_right _ hi
      rw[Nat.add_mul,Nat.one_mul]at h1
      have h2:i*nU+j<ys.length:=by rw[q3.1];omega
      exact⟨_,List.getElem?_eq_getElem h2⟩
     refine .sl nU m ⟨g2,0,none⟩ qM (fun i j=>ys.getD (i*nU+j) undef) h4 h5 (fun _ _=>wm) q5 (fun i hi j hj=>?_) (fun k el hk j x hx=>?_)
     ·obtain⟨y,hy⟩:=pB i hi j hj
      have:=q3'.cells (g:=g2) rfl _ _ hy
      rw[G7]
      have e:ys.getD (i*nU+j) undef=y:=by rw[List.getD,hy];rfl
      rw[e]
      show w.cell? _=_
      have this:w.cell? _=_:=this
      simpa [G7]using this
     ·obtain⟨y,hy,oO⟩:=q6 k el hk j x hx
      have e:ys.getD (k*nU+j) undef=y:=by rw[List.getD,hy];rfl
      rw[e]
      exact oO.mono le.heap le.U
   |_=>exact hz.mono le.heap le.U
 exact⟨_,ht⟩
theorem J0.take{i ver k off e sz e' nU:Nat}{l m:List (List AV)}{el:List AV}(h:J0 E n θ σ a w)(hb:A5 σ.hp i=some (.row e sz ver l))(hE:J1≤e)(hk:l[k]?=some el)(yI:el[off]?=some (.own e' nU m))(qc:FB e=false):
  ∃g n' cap y θ',θ i=.slice (some ⟨g,0,none⟩) n' cap∧w.cell? ⟨g,k*sz+off,none⟩=some y∧θ' σ.nx=y∧θ' i=θ i ∧
   J0 E n θ' ⟨σ.sl,σ.nx+1,(σ.nx,some (.row e' nU 0 m))::(i,some (.row e sz ver (l.set k (el.set off .any))))::σ.hp⟩ a w:=by
 obtain⟨nz,xs,ho,hsz,oO,hne⟩:=h.owns i _ hb
 obtain⟨wG,vl⟩:=hne hE
 rcases vl k el hk off e' nU m yI with ⟨q0,_⟩|⟨g,n',cap,y,ys,q1,q2,q3,q4,q5,q6,q7⟩
 ·rw[qc]at q0;cases q0
 have xM:θ i=.slice (some ⟨g,0,none⟩) n' cap:=q1
 have nZ:k<l.length:=(List.getElem?_eq_some_iff.1 hk).1
 have pG:off<sz:=by rw[←hsz el (List.mem_of_getElem? hk)];exact(List.getElem?_eq_some_iff.1 yI).1
 have hN:S8 (.row e sz ver l)=true:=Mf hE
 let θ':Th:=⟨fun j=>if j=σ.nx then y else θ j,fun j b=>if j=i then (if fp y=some b then none else θ.N i b)else θ.N j b⟩
 let b1:C9:=.row e' nU 0 m
 let b2:C9:=.row e sz ver (l.set k (el.set off .any))
 let σ':St:=⟨σ.sl,σ.nx+1,(σ.nx,some b1)::(i,some b2)::σ.hp⟩
 have sR:i<σ.nx:=nz
 have nX:∀j,A5 σ'.hp j=if σ.nx=j then some b1 else if i=j then some b2 else A5 σ.hp j:=fun j=>by simp only[σ',F4]
 have th:∀j,j<σ.nx→θ' j=θ j:=fun j hj=>by simp only[θ',if_neg (Nat.ne_of_lt hj)]
 have zN:θ' σ.nx=y:=by simp only[θ',if_pos]
 have hNi:∀b p,θ'.N i b=some p→θ.N i b=some p:=fun b p hp=>by
  simp only[θ',if_pos]at hp
  split at hp
  ·cases hp
  ·exact hp
 have xF:∀j,j≠i→θ'.N j=θ.N j:=fun j hj=>by simp only[θ',if_neg hj]
 -- the blocks under the new names
 have xx:∀{q:Nat},FP θ' σ.nx b1 q→fp y=some q:=fun hq=>by
  rcases hq with hq|⟨hq,_⟩
  ·rwa[zN]at hq
  ·have:S8 b1=false:=M5 (P4 q4)
   rw[this]at hq;cases hq
 have uP:∀{q:Nat},fp y=some q→FP θ i (.row e sz ver l) q:=fun hq=>.inr ⟨hN,_,(q7 _ hq).2⟩
 have tD:∀{q:Nat},FP θ' i b2 q→FP θ i (.row e sz ver l) q∧fp y≠some q:=fun {q} hq=>by
  rcases hq with hq|⟨_,p,hp⟩
  ·rw[th i sR]at hq
   refine⟨.inl hq,fun hy=>(q7 q hy).1 ?_⟩
   rw[xM]at hq
   simp[fp]at hq
   exact hq.symm
  ·refine⟨.inr ⟨hN,p,hNi q p hp⟩,fun hy=>?_⟩
   simp only[θ',if_pos,hy]at hp
   cases hp
 have rO:∀{j:Nat} {b:C9} {q:Nat},j≠i→j<σ.nx→FP θ' j b q→FP θ j b q:=fun hj nR hq=>by
  unfold FP at hq ⊢
  rwa[th _ nR,xF _ hj]at hq
 have le:(cx E θ σ w).le (cx E θ' σ' w):=by
  refine⟨Nat.le_succ _,fun j hj=>.inl (th j hj),fun j hj e2 ov v2 l2 hl=>?_,Nat.le_refl _,fun _ _ _=>rfl,fun q _ hu=>?_⟩
  ·have np:j<σ.nx:=hj
   have oE:A5 σ'.hp j=some (.row e2 ov v2 l2):=hl
   rw[nX,if_neg (by omega)]at oE
   by_cases ei:i=j
   ·subst ei
    rw[if_pos rfl]at oE
    have oE:some (C9.row e sz ver (l.set k (el.set off .any)))=some (.row e2 ov v2 l2):=oE
    cases oE
    exact⟨e,ver,l,hb,.inr ⟨rfl,by simp,th i sR⟩⟩
   ·rw[if_neg ei]at oE
    exact⟨e2,v2,l2,oE,.inr ⟨rfl,rfl,th j np⟩⟩
  ·rcases hu with hu|⟨j,b,hj,hq⟩
   ·exact .inl hu
   ·have np:A5 σ'.hp j=some b:=hj
    rw[nX]at np
    by_cases en:σ.nx=j
    ·subst en
     rw[if_pos rfl]at np
     cases np
     exact .inr ⟨i,_,hb,uP (xx hq)⟩
    ·rw[if_neg en]at np
     by_cases ei:i=j
     ·subst ei
      rw[if_pos rfl]at np
      cases np
      exact .inr ⟨i,_,hb,(tD hq).1⟩
     ·rw[if_neg ei]at np
      exact .inr ⟨j,b,np,rO (Ne.symm ei) (h.owns j b np).1 hq⟩
 refine⟨g,n',cap,y,θ',xM,q2,zN,th i sR,h.size,h.defers,h.fr,fun s x hs=>(h.slots s x hs).mono le,fun j b hj=>?_,fun j1 j2 c1 c2 q h1 h2 sO pI=>?_,fun j b q hj hq=>?_,h.X,⟨Nat.le_succ_of_le h.base.1,fun j hj=>?_⟩⟩
 ·have np:A5 σ'.hp j=some b:=hj
  rw[nX]at np
  by_cases en:σ.nx=j
  ·subst en
   rw[if_pos rfl]at np
   cases np
   refine⟨Nat.lt_succ_self _,ys,?_,q5,fun k el hk j x hx=>?_,.lt (P4 q4)⟩
   ·show Q3 w e' nU (θ' σ.nx) m.length ys
    rw[zN];exact q3
   ·obtain⟨z,hz,hi⟩:=q6 k el hk j x hx
    exact⟨z,hz,hi.mono le.heap le.U⟩
  ·rw[if_neg en]at np
   by_cases ei:i=j
   ·subst ei
    rw[if_pos rfl]at np
    cases np
    refine⟨Nat.lt_succ_of_lt sR,xs,?_,fun ss rX=>?_,fun k2 ss ni j2 x2 qb=>?_,fun _=>⟨fun b p hp=>wG b p (hNi b p hp),fun k2 ss ni j2 e2 ov m2 qH=>?_⟩⟩
    ·show Q3 w e sz (θ' i) _ xs
     rw[th i sR,List.length_set];exact ho
    ·rcases List.mem_or_eq_of_mem_set rX with h2|h2
     ·exact hsz _ h2
     ·rw[h2,List.length_set];exact hsz el (List.mem_of_getElem? hk)
    ·by_cases ek:k=k2
     ·subst ek
      rw[List.getElem?_set_self nZ]at ni
      cases ni
      by_cases ej:off=j2
      ·subst ej
       obtain⟨z,hz,hi⟩:=oO k el hk off _ yI
       have nR:off<el.length:=(List.getElem?_eq_some_iff.1 yI).1
       rw[List.getElem?_set_self nR]at qb
       cases qb
       exact⟨z,hz,.any _⟩
      ·rw[List.getElem?_set_ne ej]at qb
       obtain⟨z,hz,hi⟩:=oO k el hk j2 x2 qb
       exact⟨z,hz,hi.mono le.heap le.U⟩
     ·rw[List.getElem?_set_ne ek]at ni
      obtain⟨z,hz,hi⟩:=oO k2 ss ni j2 x2 qb
      exact⟨z,hz,hi.mono le.heap le.U⟩
    ·obtain⟨rF,g1,g2,g3⟩:=WD (P:=fun q=>q≠k*sz+off) hk hsz pG (av:=.any) rfl (fun q hq=>hq) k2 ss ni j2 e2 ov m2 qH
     rcases vl k2 rF g1 j2 e2 ov m2 g2 with ⟨q0,_⟩|⟨g',n2,qM,y2,zU,r1,r2,r3,r4,r5,r6,r7⟩
     ·rw[qc]at q0;cases q0
     refine .inr ⟨g',n2,qM,y2,zU,(th i sR).trans r1,r2,r3,r4,r5,fun q og hq j' x hx=>?_,fun b nt=>⟨(r7 b nt).1,?_⟩⟩
     ·obtain⟨z,hz,hi⟩:=r6 q og hq j' x hx
      exact⟨z,hz,hi.mono le.heap le.U⟩
     ·show θ'.N i b=_
      have h3:=(r7 b nt).2
      have vq:fp y≠some b:=fun hy=>by
       have h4:=(q7 b hy).2
       rw[h4]at h3
       exact g3 (Option.some.inj h3).symm
      simp only[θ',if_pos,if_neg vq]
      exact h3
   ·rw[if_neg ei]at np
    obtain⟨h1,h2⟩:=h.owns j b np
    exact⟨Nat.lt_succ_of_lt h1,h2.mono le (th j h1) (fun q=>congrFun (xF j (Ne.symm ei)) q) fun _ _=>rfl⟩
 ·have oB:A5 σ'.hp j1=some c1:=h1
  have oI:A5 σ'.hp j2=some c2:=h2
  rw[nX]at oB oI
  by_cases n1:σ.nx=j1<;>by_cases n2:σ.nx=j2
  ·omega
  ·subst n1
   rw[if_pos rfl]at oB
   rw[if_neg n2]at oI
   cases oB
   have hy:=xx sO
   by_cases ei:i=j2
   ·subst ei
    rw[if_pos rfl]at oI
    cases oI
    exact absurd hy (tD pI).2
   ·rw[if_neg ei]at oI
    exact absurd (h.apart i j2 _ c2 q hb oI (uP hy) (rO (Ne.symm ei) (h.owns j2 c2 oI).1 pI)) ei
  ·subst n2
   rw[if_pos rfl]at oI
   rw[if_neg n1]at oB
   cases oI
   have hy:=xx pI
   by_cases ei:i=j1
   ·subst ei
    rw[if_pos rfl]at oB
    cases oB
    exact absurd hy (tD sO).2
   ·rw[if_neg ei]at oB
    exact absurd (h.apart i j1 _ c1 q hb oB (uP hy) (rO (Ne.symm ei) (h.owns j1 c1 oB).1 sO)) ei
  ·rw[if_neg n1]at oB
   rw[if_neg n2]at oI
   by_cases e1:i=j1<;>by_cases e2:i=j2
   ·omega
   ·subst e1
    rw[if_pos rfl]at oB
    rw[if_neg e2]at oI
    cases oB
    exact h.apart i j2 _ c2 q hb oI (tD sO).1 (rO (Ne.symm e2) (h.owns j2 c2 oI).1 pI)
   ·subst e2
    rw[if_pos rfl]at oI
    rw[if_neg e1]at oB
    cases oI
    exact h.apart j1 i c1 _ q oB hb (rO (Ne.symm e1) (h.owns j1 c1 oB).1 sO) (tD pI).1
   ·rw[if_neg e1]at oB
    rw[if_neg e2]at oI
    exact h.apart j1 j2 c1 c2 q oB oI (rO (Ne.symm e1) (h.owns j1 c1 oB).1 sO) (rO (Ne.symm e2) (h.owns j2 c2 oI).1 pI)
 ·have np:A5 σ'.hp j=some b:=hj
  rw[nX]at np
  by_cases en:σ.nx=j
  ·subst en
   rw[if_pos rfl]at np
   cases np
   exact h.mine i _ q hb (uP (xx hq))
  ·rw[if_neg en]at np
   by_cases ei:i=j
   ·subst ei
    rw[if_pos rfl]at np
    cases np
    exact h.mine i _ q hb (tD hq).1
   ·rw[if_neg ei]at np
    exact h.mine j b q np (rO (Ne.symm ei) (h.owns j b np).1 hq)
 ·have vo:=h.base.1
  rw[th j (by omega)]
  refine(h.base.2 j hj).imp id fun ⟨h1,h2⟩=>⟨h1,fun ⟨e2,ov,v2,l2,hl,ou⟩=>h2 ?_⟩
  have oE:A5 σ'.hp j=some (.row e2 ov v2 l2):=hl
  rw[nX,if_neg (by omega)]at oE
  by_cases ei:i=j
  ·subst ei
   rw[if_pos rfl]at oE
   have oE:some (C9.row e sz ver (l.set k (el.set off .any)))=some (.row e2 ov v2 l2):=oE
   cases oE
   exact⟨_,_,_,_,hb,ou⟩
  ·rw[if_neg ei]at oE
   exact⟨_,_,_,_,oE,ou⟩
theorem J0.give{i ver k off e sz e' nU m vm g n' cap:Nat}{l l2:List (List AV)}{el:List AV}{w':World}{nV:Array Value}(h:J0 E n θ σ a w)(hb:A5 σ.hp i=some (.row e sz ver l))(hE:J1≤e)(hk:l[k]?=some el)(pG:off<sz)
  (hm:A5 σ.hp m=some (.row e' nU vm l2)) (qh:e'<H3) (tF:m≠i) (hθ:θ i=.slice (some ⟨g,0,none⟩) n' cap) (hg:L6 w g nV e) (sI:k*sz+off<l.length*sz) (hw:w'=w.setRow g (nV.setIfInBounds (k*sz+off) (θ m))) :
  ∃θ',J0 E n θ' ⟨σ.sl,σ.nx,(m,none)::(i,some (.row e sz ver (l.set k (el.set off (.own e' nU l2)))))::σ.hp⟩ a w':=by
 obtain⟨nz,xs,ho,hsz,oO,hne⟩:=h.owns i _ hb
 obtain⟨pN,ys,xC,vE,yz,_⟩:=h.owns m _ hm
 obtain⟨wG,vl⟩:=hne hE
 have nZ:k<l.length:=(List.getElem?_eq_some_iff.1 hk).1
 have hN:S8 (.row e sz ver l)=true:=Mf hE
 have rz:w'.os=w.os:=by rw[hw];rfl
 have nY:w'.heap.size=w.heap.size:=by rw[hw];simp
 have hh:∀q,q≠g→w'.heap[q]?=w.heap[q]?:=fun q hq=>by rw[hw];exact setRow_other w g q _ hq
 have oe:∀q,q≠k*sz+off→w'.cell? ⟨g,q,none⟩=w.cell? ⟨g,q,none⟩:=fun q hq=>by rw[hw];exact Rw hg q hq
 let P0:=k*sz+off
 let θ':Th:=⟨θ.v,fun j b=>if j=i then (if fp (θ m)=some b then some P0 else θ.N i b)else θ.N j b⟩
 let b2:C9:=.row e sz ver (l.set k (el.set off (.own e' nU l2)))
 let σ':St:=⟨σ.sl,σ.nx,(m,none)::(i,some b2)::σ.hp⟩
 have nX:∀j,A5 σ'.hp j=if m=j then none else if i=j then some b2 else A5 σ.hp j:=fun j=>by simp only[σ',F4]
 have xF:∀j,j≠i→θ'.N j=θ.N j:=fun j hj=>by simp only[θ',if_neg hj]
 have hmb:S8 (.row e' nU vm l2)=false:=M5 (P4 qh)
 have tD:∀{q:Nat},FP θ' i b2 q→FP θ i (.row e sz ver l) q∨fp (θ m)=some q:=fun {q} hq=>by
  rcases hq with hq|⟨_,p,hp⟩
  ·exact .inl (.inl hq)
  ·simp only[θ',if_pos]at hp
   split at hp
   ·rename_i hq;exact .inr hq
   ·exact .inl (.inr ⟨hN,p,hp⟩)
 have rO:∀{j:Nat} {b:C9} {q:Nat},j≠i→FP θ' j b q→FP θ j b q:=fun hj hq=>by
  unfold FP at hq ⊢
  rwa[xF _ hj]at hq
 have wK:FP θ i (.row e sz ver l) g:=.inl (by rw[hθ];rfl)
 have hgm:∀q,fp (θ m)=some q→q≠g:=fun q hq e2=>tF (h.apart m i _ _ q hm hb (.inl hq) (by rw[e2];exact wK))
 have le:(cx E θ σ w).le (cx E θ' σ' w'):=by
  refine⟨Nat.le_refl _,fun j hj=>.inl rfl,fun j hj e2 ov v2 l3 hl=>?_,by rw[show (cx E θ' σ' w').w=w' from rfl,nY];exact Nat.le_refl _,fun q hq hu=>hh q fun e2=>hu (.inr ⟨i,_,hb,by rw[e2];exact wK⟩),fun q _ hu=>?_⟩
  ·have oE:A5 σ'.hp j=some (.row e2 ov v2 l3):=hl
   rw[nX]at oE
   by_cases em:m=j
   ·rw[if_pos em]at oE;cases oE
   ·rw[if_neg em]at oE
    by_cases ei:i=j
    ·subst ei
     rw[if_pos rfl]at oE
     have oE:some (C9.row e sz ver (l.set k (el.set off (.own e' nU l2))))=some (.row e2 ov v2 l3):=oE
     cases oE
     exact⟨e,ver,l,hb,.inr ⟨rfl,by simp,rfl⟩⟩
    ·rw[if_neg ei]at oE
     exact⟨e2,v2,l3,oE,.inr ⟨rfl,rfl,rfl⟩⟩
  ·rcases hu with hu|⟨j,b,hj,hq⟩
   ·exact .inl hu
   ·have np:A5 σ'.hp j=some b:=hj
    rw[nX]at np
    by_cases em:m=j
    ·rw[if_pos em]at np;cases np
    ·rw[if_neg em]at np
     by_cases ei:i=j
     ·subst ei
      rw[if_pos rfl]at np
      cases np
      rcases tD hq with h1|h1
      ·exact .inr ⟨i,_,hb,h1⟩
      ·exact .inr ⟨m,_,hm,.inl h1⟩
     ·rw[if_neg ei]at np
      exact .inr ⟨j,b,np,rO (Ne.symm ei) hq⟩
 have wo:∀{j:Nat} {b:C9} {q:Nat},j≠i→A5 σ.hp j=some b→FP θ j b q→q≠g:=fun hji hj hq e2=>hji (h.apart _ i _ _ _ hj hb hq (by rw[e2];exact wK))
 refine⟨θ',h.size,h.defers.mono fun q hd=>hh q fun e2=>(h.owns i _ hb).2.nodf wK (e2▸hd),⟨rz.trans h.fr.os,by rw[hw];exact h.fr.tape,by rw[hw];exact h.fr.output,by rw[nY];exact h.fr.size,fun q hq hO=>?_⟩,fun s x hs=>(h.slots s x hs).mono le,fun j b hj=>?_,fun j1 j2 c1 c2 q h1 h2 sO pI=>?_,fun j b q hj hq=>?_,h.X,⟨h.base.1,fun j hj=>?_⟩⟩
 ·rw[hh q fun e2=>?_]
  ·exact h.fr.block q hq hO
  ·rcases(h.mine i _ g hb wK).2 with h2|h2
   ·exact hO (e2▸h2)
   ·omega
 ·have np:A5 σ'.hp j=some b:=hj
  rw[nX]at np
  by_cases em:m=j
  ·rw[if_pos em]at np;cases np
  ·rw[if_neg em]at np
   by_cases ei:i=j
   ·subst ei
    rw[if_pos rfl]at np
    cases np
    have hxs:xs[P0]?=some (xs[P0]'(by rw[ho.1];exact sI)):=List.getElem?_eq_getElem _
    refine⟨nz,xs.set P0 (θ m),?_,fun ss rX=>?_,fun k2 ss ni j2 x2 qb=>?_,fun _=>⟨fun b p hp=>?_,fun k2 ss ni j2 e2 ov m2 qH=>?_⟩⟩
    ·show Q3 w' e sz (θ i) _ _
     refine⟨by rw[List.length_set,List.length_set];exact ho.1,?_⟩
     rcases ho.2 with ⟨hn,_⟩|⟨g',oR,tQ,r1,r2,r3,r4,r5,r6,r7⟩
     ·rw[show (cx E θ σ w).θ i=θ i from rfl,hθ]at hn;cases hn
     ·have qy:θ i=.slice (some ⟨g',0,none⟩) l.length oR:=r1
      have eg:g'=g:=by rw[hθ]at qy;injection qy with e1 e2;injection e1 with e1;injection e1 with e1;exact e1.symm
      subst eg
      have ec:tQ=nV:=by
       obtain⟨_,_,s1,_⟩:=r3.some
       obtain⟨_,_,s2,_⟩:=hg.some
       have xN:w.heap[g']?=_:=s1
       rw[s2]at xN
       injection xN with s3
       injection s3 with s3
       exact s3.symm
      subst ec
      have hg':L6 w' g' (tQ.setIfInBounds (k*sz+off) (θ m)) e:=by rw[hw];exact hg.set
      exact .inr ⟨g',oR,tQ.setIfInBounds (k*sz+off) (θ m),by rw[List.length_set];exact qy,.ge hE,hg',by rw[List.length_set];exact r4,r5,by simp[r6],by rw[List.length_set,Array.toList_setIfInBounds,←r7,List.take_set]⟩
    ·rcases List.mem_or_eq_of_mem_set rX with h2|h2
     ·exact hsz _ h2
     ·rw[h2,List.length_set];exact hsz el (List.mem_of_getElem? hk)
    ·obtain⟨z,hz,hR⟩:=Iv (R:=fun x y=>∃y0,Im (cx E θ σ w).U w x y0∧y=y0) (v:=θ m) hk hsz ho.1 pG (fun k el hk j x hx=>by
      obtain⟨y,hy,hi⟩:=oO k el hk j x hx
      exact⟨y,hy,y,hi,rfl⟩) ⟨θ m,.own e' nU l2 _,rfl⟩ k2 ss ni j2 x2 qb
     obtain⟨y0,hi,rfl⟩:=hR
     exact⟨z,hz,hi.mono le.heap le.U⟩
    ·show CY w' b
     have oQ:∀q,CY w q→CY w' q:=fun q hq=>by
      by_cases e2:q=g
      ·subst e2
       obtain⟨t,fz,tY,_⟩:=hg.some
       exact⟨_,t,fz,by rw[hw];exact setRow_heap w q nV _ t _ tY⟩
      ·exact hq.mono (hh q e2)
     have sM:θ'.N i b=some p:=hp
     simp only[θ',if_pos]at sM
     split at sM
     ·rename_i hq
      refine oQ b ?_
      rcases xC.2 with ⟨h1,_⟩|⟨q2,qM,tN,h1,_,h3,_⟩
      ·rw[show θ m=(cx E θ σ w).θ m from rfl,h1]at hq;cases hq
      ·rw[show θ m=(cx E θ σ w).θ m from rfl,h1]at hq
       simp[fp]at hq
       subst hq
       obtain⟨t,fz,h4,_⟩:=h3.some
       exact⟨_,_,_,h4⟩
     ·exact oQ b (wG b p sM)
    ·by_cases ek:k=k2∧off=j2
     ·obtain⟨rfl,rfl⟩:=ek
      rw[List.getElem?_set_self nZ]at ni
      cases ni
      have nR:off<el.length:=by rw[hsz el (List.mem_of_getElem? hk)];exact pG
      rw[List.getElem?_set_self nR]at qH
      cases qH
      refine .inr ⟨g,n',cap,θ m,ys,hθ,?_,⟨xC.1,xC.2.imp id fun ⟨p,cp,tN,r1,r2,r3,r4⟩=>⟨p,cp,tN,r1,.lt (j7 qh),r3.mono (hh p (hgm p (by rw[show θ m=(cx E θ σ w).θ m from rfl,r1];rfl))),r4⟩⟩,qh,vE,fun q og hq j' x hx=>?_,fun b nt=>⟨hgm b nt,?_⟩⟩
      ·show w'.cell? _=_
       obtain⟨t,fz,tY,_⟩:=hg.some
       rw[hw,J7 (setRow_heap w g nV _ t _ tY)]
       have rZ:k*sz+off<nV.size:=by
        rcases ho.2 with ⟨hn,_⟩|⟨g',oR,tQ,r1,r2,r3,r4,r5,r6,r7⟩
        ·rw[show (cx E θ σ w).θ i=θ i from rfl,hθ]at hn;cases hn
        ·have qy:θ i=.slice (some ⟨g',0,none⟩) l.length oR:=r1
         have eg:g'=g:=by rw[hθ]at qy;injection qy with e1 e2;injection e1 with e1;injection e1 with e1;exact e1.symm
         subst eg
         obtain⟨_,_,s1,_⟩:=r3.some
         have xN:w.heap[g']?=_:=s1
         rw[tY]at xN
         injection xN with s3
         injection s3 with s3
         rw[s3,r6]
         have:=Nat.mul_le_mul_right sz r4
         omega
       simp[rZ]
      ·obtain⟨z,hz,hi⟩:=yz q og hq j' x hx
       exact⟨z,hz,hi.mono le.heap le.U⟩
      ·show θ'.N i b=_
       simp only[θ',if_pos,nt]
       rfl
     ·have key:∃rF,l[k2]?=some rF∧rF[j2]?=some (.own e2 ov m2)∧k2*sz+j2≠k*sz+off:=by
       by_cases e1:k=k2
       ·subst e1
        rw[List.getElem?_set_self nZ]at ni
        cases ni
        have e3:off≠j2:=fun e3=>ek ⟨rfl,e3⟩
        rw[List.getElem?_set_ne e3]at qH
        exact⟨el,hk,qH,by omega⟩
       ·rw[List.getElem?_set_ne e1]at ni
        have hj3:j2<sz:=by rw[←hsz ss (List.mem_of_getElem? ni)];exact(List.getElem?_eq_some_iff.1 qH).1
        exact⟨ss,ni,qH,WC hj3 pG e1⟩
      obtain⟨rF,g1,g2,g3⟩:=key
      rcases vl k2 rF g1 j2 e2 ov m2 g2 with ⟨q0,q1,g',n2,qM,y2,r1,r2,r3⟩|⟨g',n2,qM,y2,zU,r1,r2,r3,r4,r5,r6,r7⟩
      ·have qy:θ i=.slice (some ⟨g',0,none⟩) n2 qM:=r1
       have eg:g'=g:=by rw[hθ]at qy;injection qy with e1 e2;injection e1 with e1;injection e1 with e1;exact e1.symm
       subst eg
       exact .inl ⟨q0,q1,g',n2,qM,y2,qy,(oe _ g3).trans r2,r3.mono le⟩
      have qy:θ i=.slice (some ⟨g',0,none⟩) n2 qM:=r1
      have eg:g'=g:=by rw[hθ]at qy;injection qy with e1 e2;injection e1 with e1;injection e1 with e1;exact e1.symm
      subst eg
      refine .inr ⟨g',n2,qM,y2,zU,qy,(oe _ g3).trans r2,⟨r3.1,r3.2.imp id fun ⟨p,cp,tN,s1,s2,s3,s4⟩=>⟨p,cp,tN,s1,.lt (j7 r4),s3.mono (hh p (r7 p (by rw[s1];rfl)).1),s4⟩⟩,r4,r5,fun q og hq j' x hx=>?_,fun b nt=>⟨(r7 b nt).1,?_⟩⟩
      ·obtain⟨z,hz,hi⟩:=r6 q og hq j' x hx
       exact⟨z,hz,hi.mono le.heap le.U⟩
      ·show θ'.N i b=_
       have h3:=(r7 b nt).2
       have vq:fp (θ m)≠some b:=fun hy=>tF (h.apart m i _ _ b hm hb (.inl hy) (.inr ⟨hN,_,h3⟩))
       simp only[θ',if_pos,if_neg vq]
       exact h3
   ·rw[if_neg ei]at np
    obtain⟨h1,h2⟩:=h.owns j b np
    exact⟨h1,h2.mono le rfl (fun q=>congrFun (xF j (Ne.symm ei)) q) fun q hq=>hh q (wo (Ne.symm ei) np hq)⟩
 ·have oB:A5 σ'.hp j1=some c1:=h1
  have oI:A5 σ'.hp j2=some c2:=h2
  rw[nX]at oB oI
  by_cases n1:m=j1
  ·rw[if_pos n1]at oB;cases oB
  ·by_cases n2:m=j2
   ·rw[if_pos n2]at oI;cases oI
   ·rw[if_neg n1]at oB
    rw[if_neg n2]at oI
    by_cases e1:i=j1<;>by_cases e2:i=j2
    ·omega
    ·subst e1
     rw[if_pos rfl]at oB
     rw[if_neg e2]at oI
     cases oB
     rcases tD sO with h3|h3
     ·exact h.apart i j2 _ c2 q hb oI h3 (rO (Ne.symm e2) pI)
     ·exact absurd (h.apart m j2 _ c2 q hm oI (.inl h3) (rO (Ne.symm e2) pI)) n2
    ·subst e2
     rw[if_pos rfl]at oI
     rw[if_neg e1]at oB
     cases oI
     rcases tD pI with h3|h3
     ·exact h.apart j1 i c1 _ q oB hb (rO (Ne.symm e1) sO) h3
     ·exact absurd (h.apart m j1 _ c1 q hm oB (.inl h3) (rO (Ne.symm e1) sO)) n1
    ·rw[if_neg e1]at oB
     rw[if_neg e2]at oI
     exact h.apart j1 j2 c1 c2 q oB oI (rO (Ne.symm e1) sO) (rO (Ne.symm e2) pI)
 ·have np:A5 σ'.hp j=some b:=hj
  rw[nX]at np
  by_cases em:m=j
  ·rw[if_pos em]at np;cases np
  ·rw[if_neg em]at np
   by_cases ei:i=j
   ·subst ei
    rw[if_pos rfl]at np
    cases np
    rcases tD hq with h3|h3
    ·exact h.mine i _ q hb h3
    ·exact h.mine m _ q hm (.inl h3)
   ·rw[if_neg ei]at np
    exact h.mine j b q np (rO (Ne.symm ei) hq)
 ·refine(h.base.2 j hj).imp id fun ⟨h1,h2⟩=>⟨h1,fun ⟨e2,ov,v2,l3,hl,ou⟩=>h2 ?_⟩
  have oE:A5 σ'.hp j=some (.row e2 ov v2 l3):=hl
  rw[nX]at oE
  by_cases em:m=j
  ·rw[if_pos em]at oE;cases oE
  ·rw[if_neg em]at oE
   by_cases ei:i=j
   ·subst ei
    rw[if_pos rfl]at oE
    have oE:some (C9.row e sz ver (l.set k (el.set off (.own e' nU l2))))=some (.row e2 ov v2 l3):=oE
    cases oE
    exact⟨_,_,_,_,hb,ou⟩
   ·rw[if_neg ei]at oE
    exact⟨_,_,_,_,oE,ou⟩
end ghost
section rules
variable {P:Program} {E:Env} {n:Nat} {ops:Array Oper} {rest:List Oper} {σ:St} {K:St→Prop} {ty:TypeId} {pos:String} {after:Array Edge} {x y:Operand}
theorem GC{d T szT:Nat}[tv:G2 P T false szT]{i ver k off e sz e' nU:Nat}{l m:List (List AV)}{el:List AV}(hk:l[k]?=some el)(hx:E9 σ x=some (.elt i ver k off))(hb:A5 σ.hp i=some (.row e sz ver l))(hE:Nat.ble J1 e=true)(hj:el[off]?=some (.own e' nU m))(hd:Nat.blt d n=true)
  (kk:B0 P E n ops rest (St.put ⟨σ.sl,σ.nx+1,(σ.nx,some (.row e' nU 0 m))::(i,some (.row e sz ver (l.set k (el.set off .any))))::σ.hp⟩ d (.row σ.nx 0 m.length)) K) (qc:FB e=false:=by rfl):B0 P E n ops (⟨some d,.load T x,ty,pos,after,none⟩::rest) σ K:=by
 intro a w ⟨θ,hs⟩
 obtain⟨g,n',cap,hθ,hv,_⟩:=CJ (hs.evT.rel hx) hb
 obtain⟨g2,n2,qM,y,θ',h1,h2,h3,_,h4⟩:=hs.take hb (Nat.ble_eq▸hE) hk hj qc
 have oc:θ i=.slice (some ⟨g,0,none⟩) n' cap:=hθ
 have eg:g2=g:=by rw[oc]at h1;injection h1 with e1 e2;injection e1 with e1;injection e1 with e1;exact e1.symm
 subst eg
 unfold wpList
 rw[if_pos (by simp[Region.wanted])]
 left
 have hex:(execOp a.eval ⟨some d,.load T x,ty,pos,after,none⟩).run P w=.ok (.value y) w:=by
  simp only[execOp,hv,Instr.loadAt,Instr.sureAddr,Sem.run_bind,Sem.run_pure,Result.andThen_ok]
  rw[AU (P:=P) (sz:=szT) (v:=y) h2]
  rfl
 simp only[Oper.wp,hex,Oper.upon]
 refine kk _ _ ⟨_,h4.put (Nat.blt_eq▸hd) (.row _ _ _ _ (Nat.lt_succ_self _) fun e2 ov v2 l2 oF=>?_)⟩
 simp only[cx,F4,if_pos]at oF
 cases oF
 exact⟨Nat.le_refl _,fun _=>⟨rfl,h3.symm⟩⟩
theorem GD{T szT:Nat}[tv:G2 P T false szT]{i ver k off e sz e' nU m vm len:Nat}{l l2:List (List AV)}{el:List AV}(hk:l[k]?=some el)(hx:E9 σ x=some (.elt i ver k off))(hy:E9 σ y=some (.row m vm len))(hb:A5 σ.hp i=some (.row e sz ver l))(hE:Nat.ble J1 e=true)
  (hm:A5 σ.hp m=some (.row e' nU vm l2)) (qh:Nat.blt e' H3=true) (tF:Nat.beq m i=false) (pG:Nat.blt off sz=true) (h1s:szT=1)
  (kk:B0 P E n ops rest ⟨σ.sl,σ.nx,(m,none)::(i,some (.row e sz ver (l.set k (el.set off (.own e' nU l2)))))::σ.hp⟩ K):B0 P E n ops (⟨none,.store T x y,ty,pos,after,none⟩::rest) σ K:=by
 intro a w ⟨θ,hs⟩
 obtain⟨g,n',cap,hθ,hv,_⟩:=CJ (hs.evT.rel hx) hb
 obtain⟨_,wM,_⟩:=p8 (hs.evT.rel hy) hm
 obtain⟨xs,nT,hsz,hr⟩:=hs.evT.row hb
 have oc:θ i=.slice (some ⟨g,0,none⟩) n' cap:=hθ
 have wx:a.eval y=θ m:=wM
 have nZ:k<l.length:=(List.getElem?_eq_some_iff.1 hk).1
 have ho:=Nat.blt_eq▸pG
 have qn:k*sz+off<l.length*sz:=by
  have:(k+1)*sz≤l.length*sz:=Nat.mul_le_mul_right _ nZ
  rw[Nat.add_mul,Nat.one_mul]at this
  omega
 rcases nT.2 with ⟨hn,_⟩|⟨g',oR,nV,r1,r2,r3,r4,r5,r6,r7⟩
 ·rw[oc]at hn;cases hn
 ·have qy:θ i=.slice (some ⟨g',0,none⟩) l.length oR:=r1
  have eg:g'=g:=by rw[oc]at qy;injection qy with e1 e2;injection e1 with e1;injection e1 with e1;exact e1.symm
  subst eg
  obtain⟨xm,xC,_⟩:=hs.evT.row hm
  have xO:(a.eval y).oneCell'=true:=by
   rw[wx]
   rcases xC.2 with ⟨h1,_⟩|⟨_,_,_,h1,_⟩<;>rw[h1]<;>rfl
  have oN:=Nat.mul_le_mul_right sz r4
  have nv:=Ia (P:=P) (T:=T) (ag:=false) (sz:=szT) (v:=a.eval y) xO (FH xO) h1s r3 (HG (Nat.ble_eq▸hE)) (off:=k*sz+off) (by omega)
  unfold wpList
  rw[if_pos (by simp[Region.wanted])]
  left
  have hex:=GM (ty:=ty) (pos:=pos) (after:=after) (o:=none) hv nv
  simp only[Oper.wp,hex,Oper.upon]
  have vW:m≠i:=fun e2=>by subst e2;simp at tF
  obtain⟨θ',h4⟩:=hs.give hb (Nat.ble_eq▸hE) hk ho hm (Nat.blt_eq▸qh) vW qy r3 qn rfl
  rw[wx]
  exact kk _ _ ⟨θ',by simpa [Act.put]using h4⟩
theorem PE{d T e' sz:Nat}[ts:L7 P T e' sz]{i ver len e:Nat}{s:List (List AV)}{lo hi:Option Operand}{l h:Int}(hx:E9 σ x=some (.row i ver len))(hb:A5 σ.hp i=some (.row e sz ver s))(hl:AX (E9 σ) 0 lo=some l)(hh:AX (E9 σ) len hi=some h)(h0:0≤l)(h1:l≤h)(h2:h≤len)(hd:Nat.blt d n=true)
  (k:B0 P E n ops rest (σ.put d (.sub i ver l.toNat (h.toNat-l.toNat))) K):B0 P E n ops (⟨some d,.slice T x lo hi none,ty,pos,after,none⟩::rest) σ K :=
 Ip (E0 fun _ _ _ θ a w hs=>by
  obtain⟨hu,inf,oS,hsz⟩:=ts.out
  obtain⟨nO,hv,nz⟩:=p8 (hs.rel hx) hb
  obtain⟨xs,nT,_⟩:=hs.row hb
  have mk:∀y,Rf (θ i) sz l.toNat (h.toNat-l.toNat) y→D7 (kx E θ σ.nx σ.hp w) (.sub i ver l.toNat (h.toNat-l.toNat)) y:=fun y hy =>
   .sub _ _ _ _ y nz fun e2 ov v2 l2 oF=>by
    have:A5 σ.hp i=some (.row e2 ov v2 l2):=oF
    rw[hb]at this
    cases this
    exact⟨Nat.le_refl _,fun _=>⟨by omega,hy⟩⟩
  rcases nT.2 with ⟨hn,vo⟩|⟨g,cap,nV,hg,_,_,hc,_⟩
  ·have oY:a.eval x=.slice none 0 0:=hv.trans hn
   have e0:len=0:=by omega
   subst e0
   have e1:h=0:=by omega
   have e2:l=0:=by omega
   subst e1;subst e2
   have nt:=Cb (P:=P) (isS:=true) (cap:=0) hs hl hh h0 h1 (by omega)
   refine⟨.slice none 0 0,?_,mk _ (.inl ⟨hn,rfl,rfl,rfl⟩)⟩
   simp only[execOp,oY,Instr.sliceAt,Instr.slice,Sem.run_bind,run_underlying hu,Result.andThen_ok,Option.map_none,nt,Sem.run_pure,sizeOf,typeInfo,program,Sem.run,oS]
   rfl
  ·have oY:a.eval x=.slice (some ⟨g,0,none⟩) s.length cap:=hv.trans hg
   rw[nO]at oY
   have nt:=Cb (P:=P) (isS:=true) (cap:=cap) hs hl hh h0 h1 (by omega)
   refine⟨_,?_,mk (.slice (some (if cap=l.toNat then ⟨g,0,none⟩else ⟨g,l.toNat*sz,none⟩)) (h.toNat-l.toNat) (cap-l.toNat)) (.inr ⟨g,_,cap,hg,rfl⟩)⟩
   simp only[execOp,oY,Instr.sliceAt,Instr.slice,Sem.run_bind,run_underlying hu,Result.andThen_ok,Option.map_none,nt,Sem.run_pure,sizeOf,typeInfo,program,Sem.run,oS,hsz,Option.map_some,G7,Nat.zero_add]
   split
   ·rfl
   ·simp only[Option.map,G7,Nat.zero_add]) hd k
theorem Wn{c:Cx}{i ver lo len:Nat}{y:Value}(r:D7 c (.sub i ver lo len) y){e sz:Nat}{l:List (List AV)}(hl:A5 c.hp i=some (.row e sz ver l)):lo+len≤l.length∧Rf (c.θ i) sz lo len y∧i<c.nx:=by
 cases r with
 |im hi=>cases hi
 |sub i ver lo len x hi h=>exact⟨((h e sz ver l hl).2 rfl).1,((h e sz ver l hl).2 rfl).2,hi⟩
theorem eP{d i ver m e sz:Nat}{l:List (List AV)}(hd:look σ.sl d=some (.sub i ver 0 m))(hb:A5 σ.hp i=some (.row e sz ver l))(oK:e<H3)(hsz:0<sz):St.le E n σ ((σ.set i (.row e sz (ver+1) (l.take m))).put d (.row i (ver+1) m)):=by
 rintro a w ⟨θ,h⟩
 obtain⟨hm,hv,nz⟩:=Wn (h.slots d _ hd) hb
 obtain⟨_,xs,ho,qQ,oO,_⟩:=h.owns i _ hb
 have qR:e<K8:=by unfold H3 at oK;unfold K8;omega
 have nO:(l.take m).length=m:=by rw[List.length_take];omega
 generalize hy:a.tmps.getD d undef=y at hv
 have oY:Rf (θ i) sz 0 m y:=hv
 have rA:∃x m c,θ i=.slice x m c:=by
  rcases ho.2 with ⟨h1,_⟩|⟨g,cap,nV,h1,_⟩<;>exact⟨_,_,_,h1⟩
 have key:Q3 w e sz y m (xs.take (m*sz))∧∀k,fp y=some k→fp (θ i)=some k:=by
  have vt:(xs.take (m*sz)).length=m*sz:=by
   rw[List.length_take,ho.1]
   have:=Nat.mul_le_mul_right sz (show m≤l.length by omega)
   omega
  rcases oY with ⟨h1,rfl,_,rfl⟩|⟨g,n',cap,h1,rfl⟩
  ·exact⟨⟨by simpa using vt,.inl ⟨rfl,rfl⟩⟩,fun k hk=>by cases hk⟩
  ·rcases ho.2 with ⟨h2,_⟩|⟨g',oR,nV,h2,h3,h4,h5,h6,h7,h8⟩
   ·have oI:θ i=.slice none 0 0:=h2
    rw[h1]at oI;cases oI
   ·have oI:θ i=.slice (some ⟨g',0,none⟩) l.length oR:=h2
    rw[h1]at oI
    cases oI
    have ea:(if cap=0 then (⟨g,0,none⟩:Addr)else ⟨g,0*sz,none⟩)=⟨g,0,none⟩:=by split<;>simp
    rw[ea,Nat.sub_zero]
    refine⟨⟨vt,.inr ⟨g,cap,nV,rfl,.lt (j7 oK),h4,by omega,h6,h7,?_⟩⟩,fun k hk=>by rw[h1];exact hk⟩
    rw[←h8,List.take_take]
    congr 1
    have:=Nat.mul_le_mul_right sz (show m≤l.length by omega)
    omega
 have ht:=h.turn (v':=y) (b':=.row e sz (ver+1) (l.take m)) (w':=w) (hkp:=fun _ _ _ _ h hk _=>by cases h;rw[HH oK]at hk;cases hk) (hne:=fun h=>by rw[M5 (P4 oK)]at h;cases h) hb rfl rfl rfl (Nat.le_refl _) (fun _ _ _=>rfl) (fun k hk=>.inl (key.2 k hk))
  ⟨rA,e,ver,l,rfl,.inl (Nat.lt_succ_self _)⟩ fun le=>by
  refine⟨xs.take (m*sz),by simp only[cx,E5];rw[nO];exact key.1,fun el nN=>qQ el (List.mem_of_mem_take nN),fun k el hk j x hx=>?_,.lt (P4 oK)⟩
  rw[List.getElem?_take]at hk
  split at hk
  ·rename_i rn
   obtain⟨z,hz,hi⟩:=oO k el hk j x hx
   refine⟨z,?_,hi.mono le.heap le.U⟩
   rw[List.getElem?_take,if_pos,hz]
   have hj:j<sz:=by rw[←qQ el (List.mem_of_getElem? hk)];exact(List.getElem?_eq_some_iff.1 hx).1
   have:(k+1)*sz≤m*sz:=Nat.mul_le_mul_right _ rn
   rw[Nat.add_mul,Nat.one_mul]at this
   omega
  ·cases hk
 refine⟨_,ht.size,ht.defers,ht.fr,fun s x hs=>?_,ht.owns,ht.apart,ht.mine,ht.X,ht.base⟩
 simp only[St.put,E4]at hs
 by_cases ed:d=s
 ·subst ed
  rw[if_pos rfl]at hs
  cases hs
  rw[hy]
  refine .row _ _ _ _ nz fun e' nU v2 l2 oF=>?_
  simp only[cx,St.put,St.set,F4,if_pos]at oF
  cases oF
  exact⟨Nat.le_refl _,fun _=>⟨nO,by simp[cx,E5]⟩⟩
 ·rw[if_neg ed]at hs
  exact ht.slots s x hs
end rules
end Go.Av
