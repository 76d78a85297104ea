/- Stores of several cells into an element of a row of one's own. -/
import Derived.Test.YtkcekccdcpmekaaGreatDoorQE3
set_option linter.unusedVariables false
set_option linter.unusedSimpArgs false
set_option maxHeartbeats 64000000
namespace Go.Av
open Go Go.RowKit
theorem DZ{α:Type}{xs cs:List α}{p:Nat}(h:p+cs.length≤xs.length)(j:Nat):(xs.take p++cs++xs.drop (p+cs.length))[j]?=if j<p then xs[j]? else if j<p+cs.length then cs[j-p]? else xs[j]?:=by
 have h1:(xs.take p).length=p:=by rw[List.length_take];omega
 rw[List.getElem?_append]
 by_cases a:j<p
 ·rw[if_pos a,if_pos (by rw[List.length_append];omega),List.getElem?_append_left (by omega),List.getElem?_take,if_pos a]
 ·rw[if_neg a]
  by_cases b:j<p+cs.length
  ·rw[if_pos b,if_pos (by rw[List.length_append];omega),List.getElem?_append_right (by omega),h1]
  ·rw[if_neg b,if_neg (by rw[List.length_append];omega),List.length_append,h1,List.getElem?_drop]
   congr 1;omega
theorem PS{k sz off:Nat}{l:List (List AV)}{el m:List AV}{xs cs:List Value}(hk:l[k]?=some el)(hsz:∀e∈l,e.length=sz)(kf:xs.length=l.length*sz)(nF:off+m.length≤sz)(vQ:m.length=cs.length)
  {R:AV→Value→Prop} (hr:∀(k:Nat) el,l[k]?=some el→∀(j:Nat) x,el[j]?=some x→∃y,xs[k*sz+j]?=some y∧R x y) (hm:∀(j:Nat) u z,m[j]?=some u→cs[j]?=some z→R u z) :
  k*sz+off+cs.length≤xs.length∧∀(k':Nat) mA,(l.set k (y4 el off m))[k']?=some mA→∀(j:Nat) x,mA[j]?=some x→∃y,(xs.take (k*sz+off)++cs++xs.drop (k*sz+off+cs.length))[k'*sz+j]?=some y∧R x y:=by
 have lJ:k<l.length:=(List.getElem?_eq_some_iff.1 hk).1
 have hb:(k+1)*sz≤l.length*sz:=Nat.mul_le_mul_right _ lJ
 rw[Nat.add_mul,Nat.one_mul]at hb
 have la:k*sz+off+cs.length≤xs.length:=by omega
 have ke:el.length=sz:=hsz el (List.mem_of_getElem? hk)
 refine⟨la,fun k' mA lW j x hx=>?_⟩
 rw[DZ la]
 rw[List.getElem?_set]at lW
 by_cases e:k=k'
 ·subst e
  rw[if_pos rfl,if_pos lJ]at lW
  cases lW
  have oH:(el.take off++m++el.drop (off+m.length))[j]?=some x:=hx
  rw[DZ (by omega)]at oH
  by_cases a:j<off
  ·rw[if_pos a]at oH
   rw[if_pos (by omega)]
   exact hr k el hk j x oH
  ·rw[if_neg a]at oH
   rw[if_neg (by omega)]
   by_cases b:j<off+m.length
   ·rw[if_pos b]at oH
    rw[if_pos (by omega),show k*sz+j-(k*sz+off)=j-off by omega]
    have kj:j-off<cs.length:=by omega
    exact⟨cs[j-off],List.getElem?_eq_getElem kj,hm (j-off) x _ oH (List.getElem?_eq_getElem kj)⟩
   ·rw[if_neg b]at oH
    rw[if_neg (by omega)]
    exact hr k el hk j x oH
 ·rw[if_neg e]at lW
  obtain⟨y,hy,hR⟩:=hr k' mA lW j x hx
  refine⟨y,?_,hR⟩
  have hj:j<sz:=by
   rw[←hsz mA (List.mem_of_getElem? lW)]
   exact(List.getElem?_eq_some_iff.1 hx).1
  rcases Nat.lt_or_gt_of_ne e with h1|h1
  ·have h2:(k+1)*sz≤k'*sz:=Nat.mul_le_mul_right _ h1
   rw[Nat.add_mul,Nat.one_mul]at h2
   rw[if_neg (by omega),if_neg (by omega)]
   exact hy
  ·have h2:(k'+1)*sz≤k*sz:=Nat.mul_le_mul_right _ h1
   rw[Nat.add_mul,Nat.one_mul]at h2
   rw[if_pos (by omega)]
   exact hy
section
variable {P:Program} {E:Env} {n:Nat} {ops:Array Oper} {rest:List Oper} {σ:St} {K:St→Prop} {ty:TypeId} {pos:String} {after:Array Edge} {x y:Operand}
theorem Mx{T szT:Nat}{ag:Bool}[tv:K1 P T ag szT]{i ver kk off e sz:Nat}{l:List (List AV)}{el:List AV}{av:AV}(hk:l[kk]?=some el)(hx:H1 σ x=some (.elt i ver kk off))(hy:H1 σ y=some av)(hb:A7 σ.hp i=some (.row e sz ver l))(hf:Fits σ.hp av)(ho:DB σ.hp (J8 av))(ku:M3 (J8 av)=true)
  (hl:(J8 av).length=szT) (nF:off+szT≤sz) (lb:Nat.blt e Q0=true)
  (k:B5 P E n ops rest (σ.set i (.row e sz ver (l.set kk (y4 el off (J8 av))))) K):B5 P E n ops (⟨none,.store T x y,ty,pos,after,none⟩::rest) σ K :=
 Fu hb (fun θ a w h=>by
  obtain⟨g,m,cap,hθ,hv,ld⟩:=Cn (h.rel hx) hb
  obtain⟨xs,ko,hsz,hr⟩:=h.row hb
  have lV:θ i=.slice (some ⟨g,0,none⟩) m cap:=hθ
  obtain⟨cs,hc,oh,mG⟩:=Fs h hf (h.rel hy)
  have h1:∀v∈cs,v.oneCell'=true:=by
   intro v hv
   obtain⟨j,hj⟩:=List.mem_iff_getElem?.1 hv
   have kj:j<(J8 av).length:=by rw[oh];exact(List.getElem?_eq_some_iff.1 hj).1
   have hu:(J8 av)[j]?=some (J8 av)[j]:=List.getElem?_eq_getElem kj
   exact(DB.mem ho _ (List.getElem_mem kj)).val h (mG j _ v hu hj)
  rcases ko.2 with ⟨hn,_⟩|⟨g',nX,kz,hs,pj,hg,rY,qn,oP,nC⟩
  ·rw[lV]at hn;cases hn
  ·rw[lV]at hs
   cases hs
   have wR:w.heap[g]?=some (.cells kz e (0,0)):=by
    rcases hg with ⟨_,hg⟩|⟨h2,_⟩|⟨h2,_⟩|⟨h2,_⟩
    ·exact hg
    ·have:=Nat.blt_eq▸lb;omega
    ·have:=Nat.blt_eq▸lb;unfold Q0 at this;unfold R7 at h2;omega
    ·rw[Pm (Gd (Nat.blt_eq▸lb))]at h2;cases h2
   have lT:l.length*sz≤cap*sz:=Nat.mul_le_mul_right _ rY
   have ly:∀(j:Nat) u z,(J8 av)[j]?=some u→cs[j]?=some z→Im (cx E θ σ w).U w u z:=fun j u z hu hz=>((U2 ku) u (List.mem_of_getElem? hu)).im (mG j u z hu hz)
   obtain⟨la,lC⟩:=PS (R:=Im (cx E θ σ w).U w) hk hsz ko.1 (show off+(J8 av).length≤sz by rw[hl];exact nF) oh hr ly
   have hxl:=ko.1
   have th:kk*sz+off+cs.length≤kz.size:=by omega
   have lN:=IW (P:=P) (T:=T) (ag:=ag) (sz:=szT) hc (by omega) wR (off:=kk*sz+off) th h1
   refine⟨_,GO hv lN,rfl,rfl,rfl,by simp,fun k hk=>?_,⟨⟨_,_,_,lV⟩,e,ver,l,rfl,.inr ⟨rfl,by simp,rfl⟩⟩,fun le=>?_⟩
   ·refine setRow_other w g k _ fun e=>hk ?_
    rw[lV];simp[fp,e]
   ·refine⟨xs.take (kk*sz+off)++cs++xs.drop (kk*sz+off+cs.length),?_,?_,fun k' mA lW j u hu=>?_,.lt (Bt (Nat.blt_eq▸lb))⟩
    ·refine⟨by rw[List.length_append,List.length_append,List.length_take,List.length_drop,List.length_set];omega,.inr ⟨g,cap,_,by simp[cx,G8,lV],.lt (Gd (Nat.blt_eq▸lb)),.inl ⟨by have:=Nat.blt_eq▸lb;unfold Q0 at this;unfold R7;omega,setRow_heap w g kz _ e _ wR⟩,by simpa using rY,qn,?_,?_⟩⟩
     ·simp[List.length_append,List.length_take,List.length_drop,oP];omega
     ·rw[←nC]
      apply List.ext_getElem?
      intro j
      have hcl3:kz.toList.length=cap*sz:=by simpa using oP
      rw[List.getElem?_take,List.length_set]
      by_cases a:j<l.length*sz
      ·rw[if_pos a,List.toList_toArray,DZ (by omega),DZ (by rw[List.length_take];omega)]
       by_cases b:j<kk*sz+off
       ·rw[if_pos b,if_pos b,List.getElem?_take,if_pos a]
       ·rw[if_neg b,if_neg b]
        by_cases c:j<kk*sz+off+cs.length
        ·rw[if_pos c,if_pos c]
        ·rw[if_neg c,if_neg c,List.getElem?_take,if_pos a]
      ·rw[if_neg a,DZ (by rw[List.length_take];omega),if_neg (by omega),if_neg (by omega),List.getElem?_take,if_neg a]
    ·intro mA mH
     rcases List.mem_or_eq_of_mem_set mH with h2|h2
     ·exact hsz _ h2
     ·rw[h2]
      have:=hsz el (List.mem_of_getElem? hk)
      simp[y4,List.length_append,List.length_take,List.length_drop];omega
    ·obtain⟨z,hz,hi⟩:=lC k' mA lW j u hu
     exact⟨z,hz,hi.mono le.heap le.U⟩) k
theorem Oy{T i ver len:Nat}(hy:H1 σ y=some (.row i ver len))(h:B5 P E n ops (⟨none,.store T x y,ty,pos,after,none⟩::rest) (σ.frz i) K):B5 P E n ops (⟨none,.store T x y,ty,pos,after,none⟩::rest) σ K:=Dp (Ib i) h
end
end Go.Av
