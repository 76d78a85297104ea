/- Plain lists: the first error, the first place, and what was passed. Chapter 1: names, and what they are. Chapter 1: the levels of codes. Chapter 1: leaves and depths, by the reference. Chapter 1: the check of a list. Chapter 1: the check of a list, by the reference. Chapter 1: levels, ancestors, codes of a level. Chapter 1: ancestors. Chapter 1: what stands below, codes of a level, codes with a name. Chapter 1: the codes of a level, and the example. Code lists that came in. -/
import Derived.Test.YtiphlhoclaogjaaGreatDoorJAvTy
import Derived.Test.YtiphlhoclaogjaaGreatDoorJE3
set_option linter.unusedVariables false
set_option linter.unnecessarySimpa false
set_option linter.unusedSimpArgs false
set_option maxHeartbeats 64000000
namespace Go.Proofs.YtiphlhoclaogjaaGreatDoor
open Go Go.Av
attribute [local irreducible] C9 B3 C8 D1 DQ D0 C7 St.le A3 B8
set_option maxRecDepth 100000
theorem F7{α:Type}{l:List α}{k:Nat}{x:α}(h:l[k]?=some x):l.drop k=x::l.drop (k+1):=by
 obtain⟨h1,h2⟩:=List.getElem?_eq_some_iff.1 h
 rw[List.drop_eq_getElem_cons h1,h2]
theorem F1{α:Type}{l:List α}{k:Nat}{x:α}(h:l[k]?=some x):l.take (k+1)=l.take k++[x]:=by
 rw[List.take_add_one,h];rfl
theorem T8{α:Type}{l:List α}{k:Nat}(h:¬(k:Int)<l.length):l.drop k=[]:=List.drop_eq_nil_of_le (by omega)
theorem EB{α:Type}{l:List α}{k:Nat}(h:¬(k:Int)<l.length):l.take k=l:=List.take_of_length_le (by omega)
theorem E9{α:Type}{l:List α}{k:Nat}{x:α}(h:l[k]?=some x):k<l.length:=(List.getElem?_eq_some_iff.1 h).1
def D9{α:Type}(p:α→Bool):List α→Int→Int
 |[],_=>-1
 |x::r,k=>if p x=true then k else D9 p r (k+1)
theorem Bf{α:Type}(p:α→Bool):∀(l:List α) (k:Int),0≤k→decide (0≤D9 p l k)=l.any p
 |[],k,_=>by simp[D9]
 |x::r,k,h=>by
  unfold D9
  by_cases hp:p x=true
  ·rw[if_pos hp];simp[hp,h]
  ·rw[if_neg hp,Bf p r (k+1) (by omega)]
   simp[hp]
theorem Kq{α:Type}(p:α→Bool):∀(l:List α) (k:Int),D9 p l k=-1∨(k≤D9 p l k∧D9 p l k<k+l.length)
 |[],k=>.inl rfl
 |x::r,k=>by
  unfold D9
  by_cases hp:p x=true
  ·rw[if_pos hp];right;simp;omega
  ·rw[if_neg hp]
   rcases Kq p r (k+1)with h|h
   ·exact .inl h
   ·right;simp;omega
def F3{α:Type}(f:Nat→α→Int):Nat→List α→Int
 |_,[]=>0
 |i,x::r=>if f i x=0 then F3 f (i+1) r else f i x
def F2{α:Type}(f:Nat→α→Int)(l:List α)(k:Nat):Prop:=k≤l.length∧F3 f 0 l=F3 f k (l.drop k)∧∀(i:Nat) x,i<k→l[i]?=some x→f i x=0
theorem F2.zero{α:Type}(f:Nat→α→Int)(l:List α):F2 f l 0:=⟨Nat.zero_le _,rfl,fun i x h=>absurd h (Nat.not_lt_zero _)⟩
theorem F2.step{α:Type}{f:Nat→α→Int}{l:List α}{k:Nat}{x:α}(h:F2 f l k)(hx:l[k]?=some x)(h0:f k x=0):F2 f l (k+1):=by
 refine⟨E9 hx,?_,fun i y hi hy=>?_⟩
 ·rw[h.2.1,F7 hx,F3,if_pos h0]
 ·by_cases e:i=k
  ·subst e;rw[hx]at hy;cases hy;exact h0
  ·exact h.2.2 i y (by omega) hy
theorem F2.hit{α:Type}{f:Nat→α→Int}{l:List α}{k:Nat}{x:α}(h:F2 f l k)(hx:l[k]?=some x)(h0:¬f k x=0):f k x=F3 f 0 l:=by
 rw[h.2.1,F7 hx,F3,if_neg h0]
theorem F2.done{α:Type}{f:Nat→α→Int}{l:List α}{k:Nat}(h:F2 f l k)(hk:¬(k:Int)<l.length):F3 f 0 l=0:=by
 rw[h.2.1,T8 hk];rfl
theorem P2{α:Type}{f:Nat→α→Int}:∀{l:List α} {k:Nat},F3 f k l=0→∀(i:Nat) x,l[i]?=some x→f (k+i) x=0
 |[],k,_,i,x,h=>by simp at h
 |y::r,k,h,i,x,hx=>by
  unfold F3 at h
  split at h
  ·cases i with
   |zero=>simp at hx;subst hx;assumption
   |succ i =>
    have:=P2 h i x (by simpa using hx)
    rw[show k+(i+1)=k+1+i by omega];exact this
  ·exact absurd h (by assumption)
def P6{α:Type}(p:α→Bool)(l:List α)(k:Nat):Prop:=k≤l.length∧∀x∈l.take k,p x=false
theorem P6.zero{α:Type}(p:α→Bool)(l:List α):P6 p l 0:=⟨Nat.zero_le _,fun x hx=>by simp at hx⟩
theorem P6.step{α:Type}{p:α→Bool}{l:List α}{k:Nat}{x:α}(h:P6 p l k)(hx:l[k]?=some x)(h0:p x=false):P6 p l (k+1):=by
 refine⟨E9 hx,fun y hy=>?_⟩
 rw[F1 hx]at hy
 rcases List.mem_append.1 hy with hy|hy
 ·exact h.2 y hy
 ·simp at hy;subst hy;exact h0
theorem P6.hit{α:Type}{p:α→Bool}{l:List α}{k:Nat}{x:α}(h:P6 p l k)(hx:l[k]?=some x)(h0:p x=true):true=l.any p :=
 (List.any_eq_true.2 ⟨x,List.mem_of_getElem? hx,h0⟩).symm
theorem P6.done{α:Type}{p:α→Bool}{l:List α}{k:Nat}(h:P6 p l k)(hk:¬(k:Int)<l.length):false=l.any p:=by
 have:=h.2
 rw[EB hk]at this
 exact(List.any_eq_false.2 (fun x hx=>by simp[this x hx])).symm
end Go.Proofs.YtiphlhoclaogjaaGreatDoor
namespace Go.Proofs.YtiphlhoclaogjaaGreatDoor
open Go Go.Av
attribute [local irreducible] C9 B3 C8 DQ D0 C7 St.le A3 B8
def DZ(c:UInt8):Bool:=decide (97≤c.toNat∧c.toNat≤122∨48≤c.toNat∧c.toNat≤57∨c.toNat=95)
def words:List (List UInt8):=[[97,108,108],[97,110,100],[101,118,101,110,116],[102,114,111,109],[109,105,115,115,105,110,103],[110,111,116],[111,110],[111,114],[116,111],[117,110,100,101,114],[119,104,101,114,101]]
def Ny(l:List UInt8):Bool:=match l with|[]=>false|c::_=>decide (97≤c.toNat∧c.toNat≤122)
def D6(l:List UInt8):Bool:=decide (l.length≤16) && Ny l && l.all DZ && !(decide (l∈words))
theorem Lf{l:List UInt8}(h:(l.length:Int)<1):false=D6 l:=by
 have:l=[]:=List.eq_nil_of_length_eq_zero (by omega)
 subst this;rfl
theorem Nz{l:List UInt8}(h:16<(l.length:Int)):false=D6 l:=by
 have:¬l.length≤16:=by omega
 simp[D6,this]
theorem OA{l:List UInt8}{el:UInt8}(nJ:l[Int.toNat 0]?=some el)(h:(el.toNat:Int)<97∨122<(el.toNat:Int)):false=D6 l:=by
 cases l with
 |nil=>rfl
 |cons c r =>
  have:c=el:=by simpa using nJ
  subst this
  have:¬(97≤c.toNat∧c.toNat≤122):=by omega
  simp[D6,Ny];omega
theorem Ql{l:List UInt8}{k:Nat}{el:UInt8}(nJ:l[k]?=some el)(h:¬(97≤el.toNat∧el.toNat≤122∨48≤el.toNat∧el.toNat≤57∨el.toNat=95)):false=D6 l:=by
 have:l.all DZ=false:=by
  rw[List.all_eq_false]
  exact⟨el,List.mem_of_getElem? nJ,by simp[DZ];omega⟩
 simp[D6,this]
theorem OB{l:List UInt8}(h:l∈words):false=D6 l:=by simp[D6,h]
theorem OC{l:List UInt8}{a b:UInt8}{k:Nat}(h1:¬16<(l.length:Int))(h2:¬(a.toNat:Int)<97)(ha:l[Int.toNat 0]?=some a)(h3:¬122<(b.toNat:Int))(hb:l[Int.toNat 0]?=some b)(h4:∀c∈l.take k,DZ c=true)(h5:¬(k:Int)<l.length)(h6:l∉words):true=D6 l:=by
 rw[ha]at hb
 cases hb
 have e:l.take k=l:=List.take_of_length_le (by omega)
 rw[e]at h4
 have:Ny l=true:=by
  cases l with
  |nil=>cases ha
  |cons c r=>cases ha;simp[Ny];omega
 simp[D6,this,h6]
 exact⟨by omega,h4⟩
theorem Wl{l:List UInt8}{k:Nat}{el:UInt8}(hI:∀c∈l.take k,DZ c=true)(nJ:l[k]?=some el)(h:97≤el.toNat∧el.toNat≤122∨48≤el.toNat∧el.toNat≤57∨el.toNat=95):∀c∈l.take (k+1),DZ c=true:=by
 intro c hc
 rw[List.take_add_one,nJ]at hc
 rcases List.mem_append.1 hc with hc|hc
 ·exact hI c hc
 ·simp at hc;subst hc;simpa [DZ]using h
theorem DC(l:List UInt8):A3 Tryz.prog 99 [.str l] (.b (D6 l)):=by
 refine B5 Tryz.func99 62 fun nL E h0=>?_
 repeat'((first|refine S2 ?_|(refine T6 ?_ ?_<;>intro h<;>try exact V1 h)|intro el nJ nK|intro el nJ|exact T4|refine T5 ?_ ?_|intro ex)<;>try conv=>whnf)
 rotate_left
 ·refine B0 (ι:=Nat) (fun k=>⟨[(0,.str l),(24,.sl 1 (l.map fun b=>[.v (.int .u8 b.toNat)])),(25,.i l.length),(26,.i k)],0,[]⟩) (fun k=>∀c∈l.take k,DZ c=true) (fun k=>l.length-k) 0 (by simp) (A6 h0) (fun k hI=>?_)
  repeat'((first|refine S2 ?_|(refine T6 ?_ ?_<;>intro h<;>try exact V1 h)|intro el nJ nK|intro el nJ|exact T4|refine T5 ?_ ?_|intro ex)<;>try conv=>whnf)
  all_goals first
   |exact⟨k+1,Wl hI nJ (by omega),by omega,A6 h0⟩
   |(refine A1 rfl (congrArg AV.b ?_);first|exact Ql nJ (by omega)|exact OB (by subst h;decide)|exact OC (by assumption) (by assumption) (by assumption) (by assumption) (by assumption) hI (by assumption) (by simp[words, *]))
 all_goals (refine A1 rfl (congrArg AV.b ?_);first|exact Lf h|exact Nz h|exact OA nJ (by omega))
theorem s9(l:List UInt8):A3 Tryz.prog 81 [.str l] (.b (D6 l)):=by
 refine B5 Tryz.func81 70 fun nL E h0=>?_
 repeat'((first|refine S2 ?_|(refine T6 ?_ ?_<;>intro h<;>try exact V1 h)|intro el nJ nK|intro el nJ|exact T4|refine T5 ?_ ?_|intro ex)<;>try conv=>whnf)
 rotate_left
 ·refine B0 (ι:=Nat) (fun k=>⟨[(0,.str l),(3,.i k)],0,[]⟩) (fun k=>∀c∈l.take k,DZ c=true) (fun k=>l.length-k) 0 (by simp) (A6 h0) (fun k hI=>?_)
  repeat'((first|refine S2 ?_|(refine T6 ?_ ?_<;>intro h<;>try exact V1 h)|intro el nJ nK|intro el nJ|exact T4|refine T5 ?_ ?_|intro ex)<;>try conv=>whnf)
  all_goals first
   |exact⟨k+1,Wl hI nJ (by omega),by omega,A6 h0⟩
   |(refine A1 rfl (congrArg AV.b ?_);first|exact Ql nJ (by omega)|exact OB (by subst h;decide)|exact OC (by assumption) (by assumption) (by assumption) (by assumption) (by assumption) hI (by assumption) (by simp[words, *]))
 all_goals first
  |(refine A1 rfl (congrArg AV.b ?_);first|exact Lf h|exact Nz h|exact OA nJ (by omega))
structure Code where
 name:List UInt8
 parent:Int
deriving DecidableEq
abbrev cA(c:Code):List AV:=[.str c.name,.i c.parent]
abbrev iA(d:Nat):List AV:=[.i (d:Int)]
abbrev lA(nm:List UInt8)(cs:List Code):AV:=.agg [.str nm,.sl 2 (cs.map cA)]
def w8:List Nat→List Code→List Nat
 |out,[]=>out
 |out,c::r=>w8 (out++[if out=[]then 0 else out.getD c.parent.toNat 0+1]) r
def O3(cs:List Code):List Nat:=w8 [] cs
theorem GZ:∀(cs:List Code) (out:List Nat),(w8 out cs).length=out.length+cs.length
 |[],out=>rfl
 |c::r,out=>by simp only[w8,GZ r];simp;omega
theorem H4(cs:List Code):(O3 cs).length=cs.length:=by simp[O3,GZ]
theorem Fw:∀(cs:List Code) (out:List Nat) (j:Nat),j<out.length→(w8 out cs)[j]?=out[j]?
 |[],out,j,_=>rfl
 |c::r,out,j,h=>by
  simp only[w8]
  rw[Fw r _ j (by simp;omega),List.getElem?_append_left h]
theorem JK:∀(cs:List Code) (out:List Nat) (k:Nat) (c:Code),cs[k]?=some c→((out++[]=[]∧k=0)∨True) →
  (w8 out cs)[out.length+k]?=some (if out.length+k=0 then 0 else if c.parent.toNat<out.length+k then (w8 out cs).getD c.parent.toNat 0+1 else 1)
 |[],out,k,c,h,_=>by simp at h
 |a::r,out,0,c,h,_=>by
  simp at h
  subst h
  simp only[w8,Nat.add_zero]
  rw[Fw _ _ _ (by simp)]
  simp only[List.getElem?_append_right (Nat.le_refl _),Nat.sub_self,List.getElem?_cons_zero]
  congr 1
  by_cases e:out=[]
  ·subst e;simp
  ·have hl:¬out.length=0:=by simpa using e
   rw[if_neg e,if_neg hl]
   by_cases hp:a.parent.toNat<out.length
   ·rw[if_pos hp,List.getD_eq_getElem?_getD,List.getD_eq_getElem?_getD,Fw _ _ _ (by simp;omega),List.getElem?_append_left hp]
   ·rw[if_neg hp,List.getD_eq_getElem?_getD,List.getElem?_eq_none (by omega)]
    rfl
 |a::r,out,k+1,c,h,_=>by
  simp only[w8]
  have:=JK r (out++[if out=[]then 0 else out.getD a.parent.toNat 0+1]) k c (by simpa using h) (.inr trivial)
  simp only[List.length_append,List.length_cons,List.length_nil]at this
  rw[show out.length+(k+1)=out.length+(0+1)+k by omega]
  exact this
def Fx(cs:List Code):Prop:=∀(i:Nat) c,cs[i]?=some c→0<i→0≤c.parent∧c.parent<i
theorem Ck{cs:List Code}(h:Fx cs){k:Nat}{c:Code}(hc:cs[k]?=some c):(O3 cs)[k]?=some (if k=0 then 0 else (O3 cs).getD c.parent.toNat 0+1):=by
 have h1:=JK cs [] k c hc (.inr trivial)
 simp only[List.length_nil,Nat.zero_add]at h1
 unfold O3
 rw[h1]
 congr 1
 by_cases e:k=0
 ·simp[e]
 ·rw[if_neg e,if_neg e]
  have:=h k c hc (by omega)
  rw[if_pos (by omega)]
def Bg(D:List Nat)(n k:Nat):List Nat:=D.take k++List.replicate (n-k) 0
theorem Lg{D:List Nat}{n k:Nat}(hD:D.length=n)(hk:k≤n):(Bg D n k).length=n:=by simp[Bg,hD];omega
theorem TS{D:List Nat}{n k i:Nat}(hD:D.length=n)(hk:k≤n)(hi:i<k):(Bg D n k)[i]?=D[i]?:=by
 rw[Bg,List.getElem?_append_left (by simp;omega),List.getElem?_take_of_lt hi]
theorem db{D:List Nat}{n k:Nat}{d:Nat}(hD:D.length=n)(hk:k<n)(hd:D[k]?=some d):((Bg D n k).map iA).set k (iA d)=(Bg D n (k+1)).map iA:=by
 have e:n-k=(n-(k+1))+1:=by omega
 have h1:(D.take k).length=k:=by rw[List.length_take];omega
 rw[Bg,e,List.replicate_succ,Bg,List.take_add_one,hd]
 rw[List.map_append,List.map_cons,List.set_append_right _ _ (by rw[List.length_map,h1];exact Nat.le_refl _),List.length_map,h1,Nat.sub_self]
 simp
theorem ab(D:List Nat)(n:Nat):(Bg D n 0).map iA=List.replicate n (iA 0):=by simp[Bg]
theorem ae{D:List Nat}{n:Nat}(hD:D.length=n):Bg D n n=D:=by simp[Bg,←hD]
theorem af{D:List Nat}{n k:Nat}(hD:D.length=n)(hk:k<n)(hd:D[k]?=some 0):Bg D n k=Bg D n (k+1):=by
 have e:n-k=(n-(k+1))+1:=by omega
 rw[Bg,e,List.replicate_succ,Bg,List.take_add_one,hd]
 simp
theorem Kr{cs:List Code}(h:Fx cs):∀(j d:Nat),(O3 cs)[j]?=some d→d≤j:=by
 intro j
 induction j using Nat.strongRecOn with
 |_ j ih =>
  intro d hd
  have nN:j<cs.length:=by rw[←H4 cs];exact(List.getElem?_eq_some_iff.1 hd).1
  have hc:=List.getElem?_eq_getElem nN
  rw[Ck h hc]at hd
  by_cases e:j=0
  ·simp[e]at hd;omega
  ·rw[if_neg e]at hd
   obtain⟨h1,h2⟩:=h j _ hc (by omega)
   have hp:(cs[j].parent).toNat<j:=by omega
   have hp2:(cs[j].parent).toNat<(O3 cs).length:=by rw[H4];omega
   have:=ih _ hp _ (List.getElem?_eq_getElem hp2)
   rw[List.getD_eq_getElem?_getD,List.getElem?_eq_getElem hp2]at hd
   simp at hd
   omega
theorem CQ(nm:List UInt8)(cs:List Code)(hb:Fx cs)(nM:cs.length≤1000000):A3 Tryz.prog 165 [lA nm cs] (.sl 1 ((O3 cs).map iA)):=by
 have hD:=H4 cs
 refine B5 Tryz.func165 31 fun nL E h0=>?_
 repeat'((first|refine S2 ?_|(refine T6 ?_ ?_<;>intro h<;>try exact V1 h)|intro el nJ nK|intro el nJ|exact T4|refine T5 ?_ ?_|intro ex)<;>try conv=>whnf)
 refine B0 (ι:=Nat) (fun k=>⟨[(1,.ref 0 0),(3,.row 1 0 cs.length),(11,.sl 2 (cs.map cA)),(12,.i cs.length),(13,.i k)],2,[(0,some (.box [.str nm,.sl 2 (cs.map cA)])),(1,some (.row 3 1 0 ((Bg (O3 cs) cs.length k).map iA)))]⟩) (fun k=>k≤cs.length) (fun k=>cs.length-k) 0 (Nat.zero_le _) (A7 h0 rfl ⟨rfl,rfl,rfl,rfl,rfl,trivial⟩ ⟨rfl,⟨0,by rw[ab];rfl⟩,trivial⟩ rfl rfl rfl) (fun k hI=>?_)
 repeat'((first|(refine J0 ?_ ?_;(have:=hb k el nJ (by omega);omega))|(refine Bc ?_ (fun x hx=>?_);(rw[Lg hD hI];have:=hb k el nJ (by omega);omega))|(refine J0 ?_ ?_;(have h5:=hb k el nJ (by omega);have h6:=Kr hb el.parent.toNat x (by rw[←TS hD hI (by omega)];exact hx);omega))|(refine Bc ?_ (fun y hy=>?_);(rw[Lg hD hI];omega)) |refine S2 ?_|(refine T6 ?_ ?_<;>intro h<;>try exact V1 h)|intro el nJ nK|intro el nJ|exact T4|refine T5 ?_ ?_|intro ex)<;>try conv=>whnf)
 rotate_left
 ·refine⟨k+1,?_,?_,A7 h0 rfl ⟨rfl,rfl,rfl,rfl,rfl,trivial⟩ ⟨rfl,⟨0,?_⟩,trivial⟩ rfl rfl rfl⟩
  ·omega
  ·omega
  ·have rz:k=0:=by omega
   exact congrArg (fun l=>C4.row 3 1 0 (l.map iA)) (af (k:=k) hD (by omega) (by rw[Ck hb nJ,if_pos rz])).symm
 ·apply A1
  ·rfl
  ·have e:k=cs.length:=by omega
   subst e
   exact congrArg (fun l=>AV.sl 1 (l.map iA)) (ae hD)
 ·rename_i _ z hz
  refine⟨k+1,?_,?_,A7 h0 rfl ⟨rfl,rfl,rfl,rfl,rfl,trivial⟩ ⟨rfl,⟨0,congrArg (C4.row 3 1 0) (db hD ?_ ?_).symm⟩,trivial⟩ rfl rfl rfl⟩
  ·omega
  ·omega
  ·omega
  ·have h5:=hb k el nJ (by omega)
   rw[TS hD hI (by omega)]at hz
   rw[Ck hb nJ,if_neg (by omega),List.getD_eq_getElem?_getD,hz]
   rfl
def Y8(cs:List Code)(code:Int):Bool:=cs.all fun c=>decide (c.parent≠code)
theorem TT{α:Type}{l:List α}{p:α→Prop}{k:Nat}{el:α}(hI:∀c∈l.take k,p c)(nJ:l[k]?=some el)(h:p el):∀c∈l.take (k+1),p c:=by
 intro c hc
 rw[List.take_add_one,nJ]at hc
 rcases List.mem_append.1 hc with hc|hc
 ·exact hI c hc
 ·simp at hc;subst hc;exact h
theorem iD{cs:List Code}{code:Int}{k:Nat}{el:Code}(nJ:cs[k]?=some el)(h:el.parent=code):false=Y8 cs code:=by
 refine(List.all_eq_false.2 ⟨el,List.mem_of_getElem? nJ,by simp[h]⟩).symm
theorem de{cs:List Code}{code:Int}{k:Nat}(hI:∀c∈cs.take k,c.parent≠code)(h:¬(k:Int)<cs.length):true=Y8 cs code:=by
 have e:cs.take k=cs:=List.take_of_length_le (by omega)
 rw[e]at hI
 exact(List.all_eq_true.2 fun c hc=>by simpa using hI c hc).symm
theorem ah(nm:List UInt8)(cs:List Code)(code:Int)(nM:cs.length≤9223372036854775807):A3 Tryz.prog 134 [lA nm cs,.i code] (.b (Y8 cs code)):=by
 refine B5 Tryz.func134 21 fun nL E h0=>?_
 repeat'((first|refine S2 ?_|(refine T6 ?_ ?_<;>intro h<;>try exact V1 h)|intro el nJ nK|intro el nJ|exact T4|refine T5 ?_ ?_|intro ex)<;>try conv=>whnf)
 refine B0 (ι:=Nat) (fun k=>⟨[(1,.i code),(2,.ref 0 0),(5,.i k)],1,[(0,some (.box [.str nm,.sl 2 (cs.map cA)]))]⟩) (fun k=>∀c∈cs.take k,c.parent≠code) (fun k=>cs.length-k) 0 (by simp) (A6 h0) (fun k hI=>?_)
 repeat'((first|refine S2 ?_|(refine T6 ?_ ?_<;>intro h<;>try exact V1 h)|intro el nJ nK|intro el nJ|exact T4|refine T5 ?_ ?_|intro ex)<;>try conv=>whnf)
 all_goals first
  |exact⟨k+1,TT hI nJ h,by omega,A6 h0⟩
  |(refine A1 rfl (congrArg AV.b ?_);first|exact iD nJ h|exact de hI h)
structure Good(cs:List Code):Prop where
 before:Fx cs
 root:∀c,cs[0]?=some c→c.parent=-1
theorem Bw(nm:List UInt8)(cs:List Code)(code d:Nat)(hg:Good cs)(nM:cs.length≤9223372036854775807)(hd:(O3 cs)[code]?=some d):A3 Tryz.prog 78 [lA nm cs,.i code] (.i d):=by
 have hb:=hg.before
 have qC:=Kr hb
 have ni:code<cs.length:=by rw[←H4 cs];exact(List.getElem?_eq_some_iff.1 hd).1
 refine B5 Tryz.func78 22 fun nL E h0=>?_
 repeat'((first|refine S2 ?_|(refine T6 ?_ ?_<;>intro h<;>try exact V1 h)|intro el nJ nK|intro el nJ|exact T4|refine T5 ?_ ?_|intro ex)<;>try conv=>whnf)
 refine B0 (ι:=Nat×Nat) (fun x=>⟨[(1,.i x.1),(2,.ref 0 0),(5,.i x.2)],1,[(0,some (.box [.str nm,.sl 2 (cs.map cA)]))]⟩) (fun x=>x.1≤code∧(O3 cs)[x.1]?.map (·+x.2)=some d) (fun x=>x.1) (code,0) ⟨Nat.le_refl _,by simp[hd]⟩ (A6 h0) (fun x hI=>?_)
 obtain⟨j,m⟩:=x
 obtain⟨hj,hI⟩:=hI
 rw[Option.map_eq_some_iff]at hI
 obtain⟨dj,yy,AD5⟩:=hI
 have hdjl:=qC _ _ hd
 simp only at hj yy AD5
 repeat'((first|refine S2 ?_|(refine T6 ?_ ?_<;>intro h<;>try exact V1 h)|intro el nJ nK|intro el nJ|exact T4|refine T5 ?_ ?_|intro ex)<;>try conv=>whnf)
 ·have pP:cs[j]?=some el:=nJ
  have po:0<j:=by
   rcases Nat.eq_zero_or_pos j with e|e
   ·subst e;have:=hg.root el pP;omega
   ·exact e
  obtain⟨h1,h2⟩:=hb j el pP po
  have h3:=Ck hb pP
  rw[yy,if_neg (by omega)]at h3
  have hp:el.parent.toNat<(O3 cs).length:=by rw[H4];omega
  rw[List.getD_eq_getElem?_getD,List.getElem?_eq_getElem hp]at h3
  simp at h3
  refine⟨(el.parent.toNat,m+1),⟨?_,?_⟩,?_,A7 h0 rfl ⟨congrArg (fun z=>some (AV.i z)) (Int.toNat_of_nonneg h1).symm,rfl,rfl,trivial⟩ ⟨rfl,trivial⟩ rfl rfl rfl⟩
  ·simp only;omega
  ·simp only[List.getElem?_eq_getElem hp,Option.map_some]
   congr 1
   omega
  ·simp only;omega
 ·refine A1 rfl (congrArg (fun z:Nat=>AV.i (z:Int)) ?_)
  have pP:cs[j]?=some el:=nJ
  have po:j=0:=by
   rcases Nat.eq_zero_or_pos j with e|e
   ·exact e
   ·have:=hb j el pP e;omega
  subst po
  rw[Ck hb pP,if_pos rfl]at yy
  cases yy
  omega
def Fy(i:Nat)(p:Int):Bool:=if i=0 then decide (p≠-1)else decide (p<0∨(i:Int)≤p)
def scan:List Code→List Code→Option Int
 |_,[]=>none
 |pre,c::r=>if D6 c.name=false then some 3 else if c.name∈pre.map (·.name)then some 10 else if Fy pre.length c.parent=true then some 6 else scan (pre++[c]) r
def lv:Int→List (Bool×Nat)→Bool
 |_,[]=>true
 |l,(lf,d)::r=>if lf=true then (if 0≤l∧(d:Int)≠l then false else lv d r)else lv l r
def z8(cs:List Code):List (Bool×Nat):=(List.range cs.length).map fun (i:Nat)=>(Y8 cs i,(O3 cs).getD i 0)
def chk(nm:List UInt8)(cs:List Code):Int :=
 if D6 nm=false then 3 else if cs.length=0 then 5 else if 60<cs.length then 1 else match scan [] cs with
 |some e=>e
 |none=>if lv (-1) (z8 cs)=true then 0 else 5
theorem TU{nm:List UInt8}{cs:List Code}(h:D6 nm=false):3=chk nm cs:=by simp[chk,h]
theorem Wm{nm:List UInt8}{cs:List Code}(h:D6 nm=true)(h2:(cs.length:Int)=0):5=chk nm cs:=by
 have:cs.length=0:=by omega
 simp[chk,h,this]
theorem TV{nm:List UInt8}{cs:List Code}(h:D6 nm=true)(h3:(60:Int)<cs.length):1=chk nm cs:=by
 have h1:¬cs.length=0:=by omega
 have h2:60<cs.length:=by omega
 simp only[chk,h,h1,h2,if_true,if_false,Bool.true_eq_false]
theorem EC{nm:List UInt8}{cs:List Code}{e:Int}(h:D6 nm=true)(h1:¬(cs.length:Int)=0)(h2:¬(60:Int)<cs.length)(h3:scan [] cs=some e):e=chk nm cs:=by
 have h1:¬cs.length=0:=by omega
 have h2:¬60<cs.length:=by omega
 simp only[chk,h,h1,h2,if_false,Bool.true_eq_false,h3]
theorem aj{nm:List UInt8}{cs:List Code}{b:Bool}(h:D6 nm=true)(h1:¬(cs.length:Int)=0)(h2:¬(60:Int)<cs.length)(h3:scan [] cs=none)(h4:lv (-1) (z8 cs)=b):(if b=true then 0 else 5:Int)=chk nm cs:=by
 have h1:¬cs.length=0:=by omega
 have h2:¬60<cs.length:=by omega
 simp only[chk,h,h1,h2,if_false,Bool.true_eq_false,h3,h4]
theorem Bh{α:Type}{l:List α}{k:Nat}{x:α}(h:l[k]?=some x):l.drop k=x::l.drop (k+1):=by
 obtain⟨h1,h2⟩:=List.getElem?_eq_some_iff.1 h
 rw[List.drop_eq_getElem_cons h1,h2]
theorem Qm{α:Type}{l:List α}{k:Nat}{x:α}(h:l[k]?=some x):l.take (k+1)=l.take k++[x]:=by
 rw[List.take_add_one,h];rfl
def AG(cs:List Code)(k:Nat):Prop:=k≤cs.length∧scan [] cs=scan (cs.take k) (cs.drop k)
theorem AG.step{cs:List Code}{k:Nat}{c:Code}(h:AG cs k)(hc:cs[k]?=some c)(h1:D6 c.name=true)(h2:c.name∉(cs.take k).map (·.name))(h3:Fy k c.parent=false):AG cs (k+1):=by
 have nN:=(List.getElem?_eq_some_iff.1 hc).1
 refine⟨nN,?_⟩
 have hl:(cs.take k).length=k:=by rw[List.length_take];omega
 rw[h.2,Bh hc,Qm hc]
 simp only[scan,h1,h2,hl,h3,Bool.true_eq_false,if_false,Bool.false_eq_true]
theorem AG.name{cs:List Code}{k:Nat}{c:Code}(h:AG cs k)(hc:cs[k]?=some c)(h1:D6 c.name=false):scan [] cs=some 3:=by
 rw[h.2,Bh hc];simp only[scan,h1,if_true]
theorem AG.dup{cs:List Code}{k:Nat}{c:Code}(h:AG cs k)(hc:cs[k]?=some c)(h1:D6 c.name=true)(h2:c.name∈(cs.take k).map (·.name)):scan [] cs=some 10:=by
 rw[h.2,Bh hc];simp only[scan,h1,h2,if_true,Bool.true_eq_false,if_false]
theorem AG.bad{cs:List Code}{k:Nat}{c:Code}(h:AG cs k)(hc:cs[k]?=some c)(h1:D6 c.name=true)(h2:c.name∉(cs.take k).map (·.name))(h3:Fy k c.parent=true):scan [] cs=some 6:=by
 have nN:=(List.getElem?_eq_some_iff.1 hc).1
 have hl:(cs.take k).length=k:=by rw[List.length_take];omega
 rw[h.2,Bh hc];simp only[scan,h1,h2,hl,h3,if_true,Bool.true_eq_false,if_false]
theorem AG.done{cs:List Code}{k:Nat}(h:AG cs k)(hk:¬(k:Int)<cs.length):scan [] cs=none:=by
 have e:k=cs.length:=by have:=h.1;omega
 rw[h.2,e,List.drop_length];rfl
def Ks(cs:List Code)(k:Nat):List (Key×AV):=(cs.take k).map fun c=>(Key.s c.name,AV.b true)
theorem YJ(cs:List Code)(k:Nat):AD .string (Ks cs k):=by
 intro p hp
 obtain⟨c,_,rfl⟩:=List.mem_map.1 hp
 rfl
theorem dh(l:List Code)(n:List UInt8):Ae (l.map fun c=>(Key.s c.name,AV.b true)) (.s n) (l5 (.bool false))=.b (decide (n∈l.map (·.name))):=by
 induction l with
 |nil=>rfl
 |cons a r ih =>
  unfold Ae w5 at ih ⊢
  rw[List.map_cons,List.find?_cons]
  by_cases e:a.name=n
  ·subst e;simp
  ·have:¬n=a.name:=fun h=>e h.symm
   simp only[Key.s.injEq,e,decide_false]
   rw[ih]
   simp[this]
theorem di(cs:List Code)(k:Nat)(n:List UInt8):Ae (Ks cs k) (.s n) (l5 (.bool false))=.b (decide (n∈(cs.take k).map (·.name))):=dh _ n
theorem dk(l:List Code)(n:List UInt8)(h:n∉l.map (·.name)):j4 (l.map fun c=>(Key.s c.name,AV.b true)) (.s n) (.b true)=(l.map fun c=>(Key.s c.name,AV.b true))++[(.s n,.b true)]:=by
 induction l with
 |nil=>rfl
 |cons a r ih =>
  simp only[List.map_cons,List.mem_cons,not_or]at h
  have:¬Key.s a.name=Key.s n:=by simp;exact fun e=>h.1 e.symm
  simp only[List.map_cons,j4,this,if_false,List.cons_append,ih h.2]
theorem TW{cs:List Code}{k:Nat}{c:Code}(hc:cs[k]?=some c)(h:c.name∉(cs.take k).map (·.name)):j4 (Ks cs k) (.s c.name) (.b true)=Ks cs (k+1):=by
 unfold Ks
 rw[dk _ _ h,Qm hc,List.map_append]
 rfl
def Dt(cs:List Code):Nat→List Bool
 |0=>List.replicate cs.length false
 |k+1=>if k=0 then Dt cs k else match cs[k]? with
  |some c=>(Dt cs k).set c.parent.toNat true
  |none=>Dt cs k
theorem Af(cs:List Code):∀k,(Dt cs k).length=cs.length
 |0=>by simp[Dt]
 |k+1=>by
  unfold Dt
  split
  ·exact Af cs k
  ·split
   ·rw[List.length_set];exact Af cs k
   ·exact Af cs k
theorem TX{cs:List Code}{k:Nat}(hk:k=0):Dt cs (k+1)=Dt cs k:=by simp[Dt,hk]
theorem MW{cs:List Code}{k:Nat}{c:Code}(hk:0<k)(hc:cs[k]?=some c):Dt cs (k+1)=(Dt cs k).set c.parent.toNat true:=by
 have:¬k=0:=by omega
 rw[Dt,if_neg this,hc]
theorem MX:∀(cs pre:List Code),scan pre cs=none→∀(i:Nat) c,cs[i]?=some c→Fy (pre.length+i) c.parent=false
 |[],pre,_,i,c,hc=>by simp at hc
 |a::r,pre,h,i,c,hc=>by
  simp only[scan]at h
  split at h
  ·cases h
  ·split at h
   ·cases h
   ·split at h
    ·cases h
    ·rename_i h3
     cases i with
     |zero=>simp at hc;subst hc;simpa using h3
     |succ i =>
      have:=MX r (pre++[a]) h i c (by simpa using hc)
      rw[List.length_append,List.length_singleton]at this
      rw[show pre.length+(i+1)=pre.length+1+i by omega]
      exact this
theorem Ga{cs:List Code}(h:scan [] cs=none):Good cs:=by
 refine⟨fun i c hc hi=>?_,fun c hc=>?_⟩
 ·have:=MX cs [] h i c hc
  simp[Fy,Nat.ne_of_gt hi]at this
  omega
 ·have:=MX cs [] h 0 c hc
  simpa [Fy]using this
theorem Wn{nm:List UInt8}{cs:List Code}(h:D6 nm=true)(h1:¬(cs.length:Int)=0)(h2:¬(60:Int)<cs.length)(h3:scan [] cs=none)(h4:lv (-1) (z8 cs)=false):5=chk nm cs:=by
 simpa using aj h h1 h2 h3 h4
theorem ak{nm:List UInt8}{cs:List Code}(h:D6 nm=true)(h1:¬(cs.length:Int)=0)(h2:¬(60:Int)<cs.length)(h3:scan [] cs=none)(h4:lv (-1) (z8 cs)=true):0=chk nm cs:=by
 simpa using aj h h1 h2 h3 h4
theorem am{cs:List Code}(hg:Good cs):∀(k j:Nat),k≤cs.length→j<cs.length→∃b,(Dt cs k)[j]?=some b∧(b=true↔∃(i:Nat) (c:Code),0<i∧i<k∧cs[i]?=some c∧c.parent=j)
 |0,j,_,hj=>⟨false,by simp[Dt,hj],by simp⟩
 |k+1,j,hk,hj=>by
  obtain⟨b,hb,ih⟩:=am hg k j (by omega) hj
  by_cases h0:k=0
  ·subst h0
   refine⟨b,by rw[TX rfl,hb],ih.trans ⟨?_,?_⟩⟩
   ·rintro ⟨i,c,h1,h2,_⟩;omega
   ·rintro ⟨i,c,h1,h2,_⟩;omega
  ·have hc:cs[k]?=some cs[k]:=List.getElem?_eq_getElem (by omega)
   obtain⟨h1,h2⟩:=hg.before k _ hc (by omega)
   by_cases hp:(cs[k].parent).toNat=j
   ·refine⟨true,?_,fun _=>⟨k,_,by omega,by omega,hc,by omega⟩,fun _=>rfl⟩
    rw[MW (by omega) hc,List.getElem?_set,if_pos hp,if_pos (by rw[Af];omega)]
   ·refine⟨b,?_,ih.trans ⟨?_,?_⟩⟩
    ·rw[MW (by omega) hc,List.getElem?_set,if_neg hp,hb]
    ·rintro ⟨i,c,g1,g2,g3,g4⟩;exact⟨i,c,g1,by omega,g3,g4⟩
    ·rintro ⟨i,c,g1,g2,g3,g4⟩
     refine⟨i,c,g1,?_,g3,g4⟩
     rcases Nat.lt_or_ge i k with h|h
     ·exact h
     ·have:i=k:=by omega
      subst this
      rw[hc]at g3
      cases g3
      omega
theorem MY{cs:List Code}(hg:Good cs){j:Nat}{x:Bool}(h:(Dt cs cs.length)[j]?=some x):Y8 cs j=!x:=by
 have hj:j<cs.length:=by rw[←Af cs cs.length];exact(List.getElem?_eq_some_iff.1 h).1
 obtain⟨b,hb,sq⟩:=am hg _ j (Nat.le_refl _) hj
 rw[hb]at h
 cases h
 cases hx:Y8 cs j with
 |true =>
  cases x with
  |false=>rfl
  |true =>
   obtain⟨i,c,_,_,h3,h4⟩:=sq.1 rfl
   have:=List.all_eq_true.1 hx c (List.mem_of_getElem? h3)
   simp[h4]at this
 |false =>
  cases x with
  |true=>rfl
  |false =>
   exfalso
   obtain⟨c,hc,he⟩:=List.all_eq_false.1 hx
   obtain⟨i,hi,rfl⟩:=List.getElem_of_mem hc
   have he:cs[i].parent=j:=by simpa using he
   have:(false=true):=sq.2 ⟨i,_,by
    rcases Nat.eq_zero_or_pos i with e|e
    ·subst e
     have:=hg.root _ (List.getElem?_eq_getElem hi)
     omega
    ·exact e,hi,List.getElem?_eq_getElem hi,he⟩
   cases this
theorem Cm{cs:List Code}{k d:Nat}(h:(O3 cs)[k]?=some d):(z8 cs)[k]?=some (Y8 cs k,d):=by
 have hk:k<cs.length:=by rw[←H4 cs];exact(List.getElem?_eq_some_iff.1 h).1
 simp[z8,hk,h]
theorem TY(cs:List Code):(z8 cs).length=cs.length:=by simp[z8]
def Eo(cs:List Code)(k:Nat)(l:Int):Prop:=k≤cs.length∧lv (-1) (z8 cs)=lv l ((z8 cs).drop k)∧-1≤l
theorem Eo.skip{cs:List Code}{k d:Nat}{l:Int}(h:Eo cs k l)(hd:(O3 cs)[k]?=some d)(hl:Y8 cs k=false):Eo cs (k+1) l:=by
 have hk:k<cs.length:=by rw[←H4 cs];exact(List.getElem?_eq_some_iff.1 hd).1
 refine⟨hk,?_,h.2.2⟩
 rw[h.2.1,Bh (Cm hd),hl]
 simp[lv]
theorem Eo.next{cs:List Code}{k d:Nat}{l:Int}(h:Eo cs k l)(hd:(O3 cs)[k]?=some d)(hl:Y8 cs k=true)(h2:¬(0≤l∧(d:Int)≠l)):Eo cs (k+1) d:=by
 have hk:k<cs.length:=by rw[←H4 cs];exact(List.getElem?_eq_some_iff.1 hd).1
 refine⟨hk,?_,by omega⟩
 rw[h.2.1,Bh (Cm hd),hl]
 simp only[lv,if_true,if_neg h2]
theorem Eo.bad{cs:List Code}{k d:Nat}{l:Int}(h:Eo cs k l)(hd:(O3 cs)[k]?=some d)(hl:Y8 cs k=true)(h2:0≤l∧(d:Int)≠l):lv (-1) (z8 cs)=false:=by
 rw[h.2.1,Bh (Cm hd),hl]
 simp only[lv,if_true,if_pos h2]
theorem Eo.done{cs:List Code}{k:Nat}{l:Int}(h:Eo cs k l)(hk:¬(k:Int)<cs.length):lv (-1) (z8 cs)=true:=by
 have e:k=(z8 cs).length:=by rw[TY];have:=h.1;omega
 rw[h.2.1,e,List.drop_length];rfl
abbrev bA(b:Bool):List AV:=[.b b]
theorem FN(nm:List UInt8)(cs:List Code)(nM:cs.length≤9223372036854775807):A3 Tryz.prog 153 [lA nm cs] (.i (chk nm cs)):=by
 refine B5 Tryz.func153 102 fun nL E h0=>?_
 repeat'((first|refine A0 (DC _) ?_|refine HU ⟨[(1,.ref 0 0),(2,.i 0),(3,.mp 1),(4,.row 2 0 cs.length)],3,[(0,some (.box [.str nm,.sl 2 (cs.map cA)])),(1,some (.map [])),(2,some (.row 4 1 0 (List.replicate cs.length [.b false])))]⟩ ?_ ?_ |refine S2 ?_|(refine T6 ?_ ?_<;>intro h<;>try exact V1 h)|intro el nJ nK|intro el nJ|exact T4|refine T5 ?_ ?_|intro ex)<;>try conv=>whnf)
 case refine_1=>exact A1 rfl (congrArg AV.i (TU h))
 case refine_2.refine_1=>exact A1 rfl (congrArg AV.i (Wm (by assumption) h))
 case refine_2.refine_2.refine_1=>exact A1 rfl (congrArg AV.i (TV (by assumption) h))
 case refine_2.refine_2.refine_2.refine_2 =>
  rename_i hn hz
  have hl:=h
  clear h
  have yY:cs.length≤1000000:=by omega
  refine B0 (ι:=Nat) (fun k=>⟨[(1,.ref 0 0),(3,.mp 1),(4,.row 2 0 cs.length),(31,.sl 2 (cs.map cA)),(32,.i cs.length),(33,.i k)],3,[(0,some (.box [.str nm,.sl 2 (cs.map cA)])),(1,some (.map (Ks cs k))),(2,some (.row 4 1 0 ((Dt cs k).map bA)))]⟩) (fun k=>AG cs k) (fun k=>cs.length-k) 0 ⟨Nat.zero_le _,by simp⟩ (A7 h0 rfl ⟨rfl,rfl,rfl,rfl,rfl,rfl,trivial⟩ ⟨rfl,rfl,⟨0,by simp[Dt]⟩,trivial⟩ rfl rfl rfl) (fun k hI=>?_)
  repeat'((first|refine A0 (DC _) ?_|refine A0 (CQ _ _ (Ga (hI.done (by assumption))).before yY) ?_|(refine J0 ?_ ?_;exact YJ _ _)|refine Rx (di _ _ _) ?_|(refine Bc ?_ (fun x hx=>?_);(rw[Af];omega)) |refine S2 ?_|(refine T6 ?_ ?_<;>intro h<;>try exact V1 h)|intro el nJ nK|intro el nJ|exact T4|refine T5 ?_ ?_|intro ex)<;>try conv=>whnf)
  all_goals first
   |exact A1 rfl (congrArg AV.i (EC hn hz hl (hI.name nJ (by assumption))))
   |exact A1 rfl (congrArg AV.i (EC hn hz hl (hI.dup nJ (by assumption) (by assumption))))
   |exact A1 rfl (congrArg AV.i (EC hn hz hl (hI.bad nJ (by assumption) (by assumption) (by unfold Fy;split<;>simp<;>omega))))
   |exact⟨k+1,hI.step nJ (by assumption) (by assumption) (by unfold Fy;split<;>simp<;>omega),by omega,A7 h0 rfl ⟨rfl,rfl,rfl,rfl,rfl,rfl,trivial⟩ ⟨rfl,congrArg C4.map (TW nJ (by assumption)).symm,⟨0,congrArg (fun l=>C4.row 4 1 0 (l.map bA)) (TX (by omega))⟩,trivial⟩ rfl rfl rfl⟩
   |exact⟨k+1,hI.step nJ (by assumption) (by assumption) (by unfold Fy;split<;>simp<;>omega),by omega,A7 h0 rfl ⟨rfl,rfl,rfl,rfl,rfl,rfl,trivial⟩ ⟨rfl,congrArg C4.map (TW nJ (by assumption)).symm,⟨0,congrArg (C4.row 4 1 0) ((congrArg (List.map bA) (MW (by omega) nJ)).trans List.map_set)⟩,trivial⟩ rfl rfl rfl⟩
   |skip
  have hs:=hI.done h
  have hg:=Ga hs
  have hk:k=cs.length:=by have:=hI.1;omega
  subst hk
  refine B0 (ι:=Nat×Int) (fun x=>⟨[(4,.row 2 0 cs.length),(7,.i x.2),(82,.sl 1 ((O3 cs).map iA)),(83,.i (O3 cs).length),(84,.i x.1)],3,[(2,some (.row 4 1 0 ((Dt cs cs.length).map bA)))]⟩) (fun x=>Eo cs x.1 x.2) (fun x=>cs.length-x.1) (0,-1) ⟨Nat.zero_le _,by simp,by simp⟩ (A7 h0 rfl ⟨rfl,rfl,rfl,rfl,rfl,trivial⟩ ⟨⟨0,rfl⟩,trivial⟩ rfl rfl rfl) (fun x hJ=>?_)
  obtain⟨j,l⟩:=x
  have uG:=hJ.1
  have hJ2:=hJ.2.2
  have qC:=H4 cs
  simp only at hJ uG hJ2
  repeat'((first|(refine Bc ?_ (fun x hx=>?_);(rw[Af];omega)) |refine S2 ?_|(refine T6 ?_ ?_<;>intro h<;>try exact V1 h)|intro el nJ nK|intro el nJ|exact T4|refine T5 ?_ ?_|intro ex)<;>try conv=>whnf)
  all_goals first
   |exact⟨(j+1,l),hJ.skip nJ (by rw[MY (j:=j) hg hx,h];rfl),by simp only;omega,A7 h0 rfl ⟨rfl,rfl,rfl,rfl,rfl,trivial⟩ ⟨⟨0,rfl⟩,trivial⟩ rfl rfl rfl⟩
   |exact A1 rfl (congrArg AV.i (Wn hn hz hl hs (hJ.bad nJ (by rw[MY (j:=j) hg hx];simp[*]) ⟨by assumption,by assumption⟩)))
   |exact⟨(j+1,(el:Int)),hJ.next nJ (by rw[MY (j:=j) hg hx];simp[*]) (by simp only at *;omega),by simp only;omega,A7 h0 rfl ⟨rfl,rfl,rfl,rfl,rfl,trivial⟩ ⟨⟨0,rfl⟩,trivial⟩ rfl rfl rfl⟩
   |exact A1 rfl (congrArg AV.i (ak hn hz hl hs (hJ.done (by simp only at *;omega))))
 all_goals first
  |exact A7 h0 rfl ⟨rfl,rfl,rfl,rfl,trivial⟩ ⟨rfl,rfl,⟨0,rfl⟩,trivial⟩ rfl rfl rfl
  |exact C0 (CP 1 2 h0 rfl rfl) (A7 h0 rfl ⟨rfl,rfl,rfl,rfl,trivial⟩ ⟨rfl,rfl,⟨0,rfl⟩,trivial⟩ rfl rfl rfl)
theorem dl{cs:List Code}{i k:Nat}{a b:Code}(hi:cs[i]?=some a)(hI:∀c∈cs.take k,c.name≠a.name)(hb:cs[k]?=some b)(h:¬b.name=a.name):∀c∈cs.take (k+1),c.name≠a.name:=TT hI hb h
theorem iE{cs:List Code}{i k:Nat}{a b:Code}(uS:k<i)(hb:cs[k]?=some b)(h:b.name=a.name):a.name∈(cs.take i).map (·.name) :=
 List.mem_map.2 ⟨b,List.mem_of_getElem? (i:=k) (by rw[List.getElem?_take_of_lt uS];exact hb),h⟩
theorem an{cs:List Code}{i:Nat}{a:Code}(hI:∀c∈cs.take i,c.name≠a.name):a.name∉(cs.take i).map (·.name):=by
 intro h
 obtain⟨c,hc,he⟩:=List.mem_map.1 h
 exact hI c hc he
theorem CS(nm:List UInt8)(cs:List Code)(nM:cs.length≤9223372036854775807):A3 Tryz.prog 77 [lA nm cs] (.i (chk nm cs)):=by
 refine B5 Tryz.func77 100 fun nL E h0=>?_
 repeat'((first|refine A0 (s9 _) ?_ |refine S2 ?_|(refine T6 ?_ ?_<;>intro h<;>try exact V1 h)|intro el nJ nK|intro el nJ|exact T4|refine T5 ?_ ?_|intro ex)<;>try conv=>whnf)
 case refine_1=>exact A1 rfl (congrArg AV.i (TU h))
 case refine_2.refine_1=>exact A1 rfl (congrArg AV.i (Wm (by assumption) h))
 case refine_2.refine_2.refine_1=>exact A1 rfl (congrArg AV.i (TV (by assumption) h))
 rename_i hn hz
 have hl:=h
 clear h
 refine B0 (ι:=Nat) (fun k=>⟨[(1,.ref 0 0),(3,.i k)],1,[(0,some (.box [.str nm,.sl 2 (cs.map cA)]))]⟩) (fun k=>AG cs k) (fun k=>cs.length-k) 0 ⟨Nat.zero_le _,by simp⟩ (A6 h0) (fun k hI=>?_)
 repeat'((first|refine A0 (s9 _) ?_ |refine S2 ?_|(refine T6 ?_ ?_<;>intro h<;>try exact V1 h)|intro el nJ nK|intro el nJ|exact T4|refine T5 ?_ ?_|intro ex)<;>try conv=>whnf)
 case refine_2.refine_2.refine_2.refine_1.refine_1=>exact A1 rfl (congrArg AV.i (EC hn hz hl (hI.name nJ h)))
 ·rename_i hk
  rename Code=>c
  rename cs[k]?=_=>hc
  have qZ:=h
  clear h
  refine B0 (ι:=Nat) (fun j=>⟨[(1,.ref 0 0),(3,.i k),(4,.i j)],1,[(0,some (.box [.str nm,.sl 2 (cs.map cA)]))]⟩) (fun j=>j≤k∧∀a∈cs.take j,a.name≠c.name) (fun j=>k-j) 0 ⟨Nat.zero_le _,by simp⟩ (A6 h0) (fun j hJ=>?_)
  obtain⟨hj,hJ⟩:=hJ
  repeat'((first|(refine A9 ?_ ?_;kernel_rfl) |refine S2 ?_|(refine T6 ?_ ?_<;>intro h<;>try exact V1 h)|intro el nJ nK|intro el nJ|exact T4|refine T5 ?_ ?_|intro ex)<;>try conv=>whnf)
  all_goals first
   |exact A1 rfl (congrArg AV.i (EC hn hz hl (hI.dup hc qZ (iE (by omega) nJ h))))
   |exact⟨j+1,⟨by omega,dl hc hJ nJ h⟩,by omega,A6 h0⟩
   |(have hjk:j=k:=by omega
     subst hjk
     first
      |exact⟨j+1,hI.step hc qZ (an hJ) (by unfold Fy;split<;>simp<;>omega),by omega,A6 h0⟩
      |exact A1 rfl (congrArg AV.i (EC hn hz hl (hI.bad hc qZ (an hJ) (by unfold Fy;split<;>simp<;>omega)))))
 ·have hs:=hI.done h
  have hg:=Ga hs
  have qC:=H4 cs
  refine B0 (ι:=Nat×Int) (fun x=>⟨[(1,.ref 0 0),(6,.i x.2),(7,.i x.1)],1,[(0,some (.box [.str nm,.sl 2 (cs.map cA)]))]⟩) (fun x=>Eo cs x.1 x.2) (fun x=>cs.length-x.1) (0,-1) ⟨Nat.zero_le _,by simp,by simp⟩ (A6 h0) (fun x hJ=>?_)
  obtain⟨j,l⟩:=x
  have uG:=hJ.1
  have hJ2:=hJ.2.2
  simp only at hJ uG hJ2
  repeat'((first|refine A0 (ah _ _ _ nM) ?_|refine A0 (Bw _ _ _ _ hg nM (List.getElem?_eq_getElem (i:=j) (by omega))) ?_ |refine S2 ?_|(refine T6 ?_ ?_<;>intro h<;>try exact V1 h)|intro el nJ nK|intro el nJ|exact T4|refine T5 ?_ ?_|intro ex)<;>try conv=>whnf)
  all_goals first
   |exact⟨(j+1,l),hJ.skip (List.getElem?_eq_getElem (by simp only at *;omega)) h,by simp only at *;omega,A6 h0⟩
   |exact A1 rfl (congrArg AV.i (Wn hn hz hl hs (hJ.bad (List.getElem?_eq_getElem (by simp only at *;omega)) (by assumption) ⟨by assumption,by assumption⟩)))
   |exact⟨(j+1,((O3 cs)[j]'(by simp only at *;omega):Int)),hJ.next (List.getElem?_eq_getElem (by simp only at *;omega)) (by assumption) (by simp only at *;omega),by simp only at *;omega,A6 h0⟩
   |exact A1 rfl (congrArg AV.i (ak hn hz hl hs (hJ.done (by simp only at *;omega))))
theorem G9{nm:List UInt8}{cs:List Code}(h:chk nm cs=0):Good cs∧0<cs.length∧cs.length≤60:=by
 unfold chk at h
 split at h
 ·cases h
 ·split at h
  ·cases h
  ·split at h
   ·cases h
   ·rename_i h1 h2 h3
    cases hs:scan [] cs with
    |some e =>
     rw[hs]at h
     simp only at h
     subst h
     exfalso
     have:∀(cs pre:List Code) e,scan pre cs=some e→e=3∨e=10∨e=6:=by
      intro cs
      induction cs with
      |nil=>intro pre e h;cases h
      |cons a r ih =>
       intro pre e h
       simp only[scan]at h
       split at h
       ·cases h;exact .inl rfl
       ·split at h
        ·cases h;exact .inr (.inl rfl)
        ·split at h
         ·cases h;exact .inr (.inr rfl)
         ·exact ih _ _ h
     have:=this _ _ _ hs
     omega
    |none=>exact⟨Ga hs,by omega,by omega⟩
theorem Bi{nm:List UInt8}{cs:List Code}(h:chk nm cs=0):cs.length≤1000000:=by have:=(G9 h).2.2;omega
def CI(ds:List Nat):Nat:=ds.foldl max 0
theorem TZ{ds:List Nat}{k x:Nat}(h:ds[k]?=some x):(max (CI (ds.take k):Int) x)=(CI (ds.take (k+1)):Nat):=by
 rw[List.take_add_one,h]
 unfold CI
 rw[List.foldl_append]
 simp only[Option.toList_some,List.foldl_cons,List.foldl_nil]
 omega
theorem dp(ds:List Nat)(hne:0<ds.length)(nM:ds.length≤1000000):A3 Tryz.prog 225 [.sl 1 (ds.map iA)] (.i (CI ds)):=by
 refine B5 Tryz.func225 25 fun nL E h0=>?_
 repeat'((first|refine S2 ?_|(refine T6 ?_ ?_<;>intro h<;>try exact V1 h)|intro el nJ nK|intro el nJ|exact T4|refine T5 ?_ ?_|intro ex)<;>try conv=>whnf)
 refine B0 (ι:=Nat) (fun k=>⟨[(0,.sl 1 (ds.map iA)),(3,.i (CI (ds.take k))),(4,.i k)],0,[]⟩) (fun k=>k≤ds.length) (fun k=>ds.length-k) 1 hne (A7 h0 rfl ⟨rfl,congrArg (fun z:Int=>some (AV.i z)) (by
  have:=TZ (k:=0) nJ
  rw[←this]
  simp[CI]),rfl,trivial⟩ trivial rfl rfl rfl) (fun k hI=>?_)
 repeat'((first|refine S2 ?_|(refine T6 ?_ ?_<;>intro h<;>try exact V1 h)|intro el nJ nK|intro el nJ|exact T4|refine T5 ?_ ?_|intro ex)<;>try conv=>whnf)
 all_goals first
  |exact⟨k+1,by omega,by omega,A7 h0 rfl ⟨rfl,congrArg (fun z:Int=>some (AV.i z)) (TZ nJ),rfl,trivial⟩ trivial rfl rfl rfl⟩
  |(refine A1 rfl (congrArg (fun z:Nat=>AV.i (z:Int)) ?_)
    rw[show k=ds.length by omega,List.take_length])
def hasB(nm:List UInt8)(cs:List Code)(code:Int):Bool:=decide (0≤code) && decide (code<cs.length) && decide (chk nm cs=0)
theorem Ta(nm:List UInt8)(cs:List Code)(code:Int)(nM:cs.length≤9223372036854775807):A3 Tryz.prog 227 [lA nm cs,.i code] (.b (hasB nm cs code)):=by
 refine B5 Tryz.func227 19 fun nL E h0=>?_
 repeat'((first|refine A0 (FN _ _ nM) ?_ |refine S2 ?_|(refine T6 ?_ ?_<;>intro h<;>try exact V1 h)|intro el nJ nK|intro el nJ|exact T4|refine T5 ?_ ?_|intro ex)<;>try conv=>whnf)
 all_goals first
  |exact A1 rfl (congrArg AV.b (by simp[hasB, *]))
def C5(nm:List UInt8)(cs:List Code):Int:=if chk nm cs=0 then (CI (O3 cs):Int)+1 else -1
theorem MZ{cs:List Code}(hb:Fx cs):CI (O3 cs)≤cs.length:=by
 have:∀(ds:List Nat) (m a:Nat),(∀d∈ds,d≤m)→a≤m→ds.foldl max a≤m:=by
  intro ds
  induction ds with
  |nil=>intro m a _ h;exact h
  |cons d r ih=>intro m a h ha;exact ih m _ (fun x hx=>h x (by simp[hx])) (by have:=h d (by simp);omega)
 refine this _ _ _ (fun d hd=>?_) (Nat.zero_le _)
 obtain⟨i,hi,rfl⟩:=List.getElem_of_mem hd
 have h1:=Kr hb i _ (List.getElem?_eq_getElem hi)
 have h2:=H4 cs
 omega
theorem EU(nm:List UInt8)(cs:List Code)(nM:cs.length≤9223372036854775807):A3 Tryz.prog 183 [lA nm cs] (.i (C5 nm cs)):=by
 have qC:=H4 cs
 have ul:=fun h=>And.intro (MZ (cs:=cs) (G9 (nm:=nm) h).1.before) (G9 (nm:=nm) (cs:=cs) h).2.2
 refine B5 Tryz.func183 10 fun nL E h0=>?_
 repeat'((first|refine A0 (FN _ _ nM) ?_|refine A0 (CQ _ _ (G9 (by simpa using h)).1.before (Bi (nm:=nm) (by simpa using h))) ?_|refine A0 (dp _ (by have:=G9 (nm:=nm) (cs:=cs) (by simpa using h);omega) (by have:=Bi (nm:=nm) (cs:=cs) (by simpa using h);omega)) ?_|(refine J0 ?_ ?_;(have:=ul (by simpa using h);omega)) |refine S2 ?_|(refine T6 ?_ ?_<;>intro h<;>try exact V1 h)|intro el nJ nK|intro el nJ|exact T4|refine T5 ?_ ?_|intro ex)<;>try conv=>whnf)
 all_goals first
  |exact A1 rfl (congrArg AV.i (by simp[C5,h]))
  |exact A1 rfl (congrArg AV.i (by have h:chk nm cs=0:=by simpa using h
                                   simp[C5,h]))
theorem gG{nm:List UInt8}{cs:List Code}{code:Int}(h:hasB nm cs code=true):cs.length≤1000000:=by
 simp only[hasB,Bool.and_eq_true,decide_eq_true_eq]at h
 exact Bi h.2
def T9(nm:List UInt8)(cs:List Code)(code:Int):Int:=if hasB nm cs code=true then ((O3 cs).getD code.toNat 0:Nat)else -1
theorem Cn{nm:List UInt8}{cs:List Code}{code:Int}(h:hasB nm cs code=true):Good cs∧0≤code∧code<cs.length∧cs.length≤60∧chk nm cs=0:=by
 simp only[hasB,Bool.and_eq_true,decide_eq_true_eq]at h
 exact⟨(G9 h.2).1,h.1.1,h.1.2,(G9 h.2).2.2,h.2⟩
def par(cs:List Code)(code:Nat):Nat:=((cs[code]?).map (·.parent.toNat)).getD 0
def Qn(cs:List Code)(code:Nat):Nat→Nat
 |0=>code
 |s+1=>Qn cs (par cs code) s
def dep(cs:List Code)(code:Nat):Nat:=(O3 cs).getD code 0
def L3(nm:List UInt8)(cs:List Code)(code level:Int):Int :=
 if hasB nm cs code=true∧0≤level∧level≤dep cs code.toNat then (Qn cs code.toNat (dep cs code.toNat-level.toNat):Int)else -1
theorem DE{cs:List Code}{j d:Nat}(h:(O3 cs)[j]?=some d):dep cs j=d:=by rw[dep,List.getD_eq_getElem?_getD,h];rfl
theorem CU{cs:List Code}{j:Nat}(h:j<cs.length):(O3 cs)[j]?=some (dep cs j):=by
 have h2:j<(O3 cs).length:=by rw[H4];exact h
 rw[dep,List.getD_eq_getElem?_getD,List.getElem?_eq_getElem h2];rfl
theorem PY{cs:List Code}(hb:Fx cs){j:Nat}{c:Code}(hc:cs[j]?=some c)(hj:0<j):dep cs j=dep cs (par cs j)+1∧par cs j<j∧(par cs j:Int)=c.parent:=by
 obtain⟨h1,h2⟩:=hb j c hc hj
 have hp:par cs j=c.parent.toNat:=by rw[par,hc];rfl
 have h3:=Ck hb hc
 rw[if_neg (by omega)]at h3
 have:=DE h3
 rw[hp]
 exact⟨this,by omega,by omega⟩
theorem Tb{cs:List Code}(hb:Fx cs){c:Code}(hc:cs[0]?=some c):dep cs 0=0:=by
 have h3:=Ck hb hc
 rw[if_pos rfl]at h3
 exact DE h3
theorem Kt(nm:List UInt8)(cs:List Code)(code level:Int)(nM:cs.length≤9223372036854775807):A3 Tryz.prog 199 [lA nm cs,.i code,.i level] (.i (L3 nm cs code level)):=by
 have qC:=H4 cs
 refine B5 Tryz.func199 36 fun nL E h0=>?_
 repeat'((first|refine A0 (Ta _ _ _ nM) ?_|refine A0 (CQ _ _ (Cn (by assumption)).1.before (gG (by assumption))) ?_|(refine w6 ?_ ?_ (fun el nJ=>?_);(have:=Cn (by assumption);omega);(have:=Cn (by assumption);omega)) |refine S2 ?_|(refine T6 ?_ ?_<;>intro h<;>try exact V1 h)|intro el nJ nK|intro el nJ|exact T4|refine T5 ?_ ?_|intro ex)<;>try conv=>whnf)
 case refine_2=>exact A1 rfl (congrArg AV.i (by rw[L3,if_neg (fun hx=>by rw[h]at hx;cases hx.1)]))
 case refine_1.refine_1=>exact A1 rfl (congrArg AV.i (by rw[L3,if_neg (fun hx=>by omega)]))
 rename_i hh
 obtain⟨hg,rL,zE,hn60,_⟩:=Cn hh
 have hb:=hg.before
 have hd0:dep cs code.toNat=el:=DE nJ
 have sT:=h
 clear h
 have sF:L3 nm cs code level=if level≤dep cs code.toNat then (Qn cs code.toNat (dep cs code.toNat-level.toNat):Int)else -1:=by
  unfold L3
  by_cases hx:level≤dep cs code.toNat
  ·rw[if_pos ⟨hh,by omega,hx⟩,if_pos hx]
  ·rw[if_neg (fun h=>hx h.2.2),if_neg hx]
 rw[sF]
 refine B0 (ι:=Nat) (fun c=>⟨[(1,.i c),(2,.i level),(3,.ref 0 0),(7,.i (dep cs c))],1,[(0,some (.box [.str nm,.sl 2 (cs.map cA)]))]⟩)
  (fun c=>c<cs.length∧((level≤dep cs code.toNat∧level≤dep cs c∧Qn cs code.toNat (dep cs code.toNat-level.toNat)=Qn cs c (dep cs c-level.toNat))∨(¬level≤dep cs code.toNat∧c=code.toNat))) (fun c=>c) code.toNat
  ⟨by omega,by by_cases hx:level≤dep cs code.toNat<;>simp[hx]⟩ (A7 h0 rfl ⟨congrArg (fun z=>some (AV.i z)) (Int.toNat_of_nonneg rL).symm,rfl,rfl,congrArg (fun z:Nat=>some (AV.i (z:Int))) hd0.symm,trivial⟩ ⟨rfl,trivial⟩ rfl rfl rfl) (fun c hI=>?_)
 obtain⟨ni,hI⟩:=hI
 have hdc:=Kr hb c _ (CU ni)
 repeat'((first|refine S2 ?_|(refine T6 ?_ ?_<;>intro h<;>try exact V1 h)|intro el nJ nK|intro el nJ|exact T4|refine T5 ?_ ?_|intro ex)<;>try conv=>whnf)
 ·refine A1 rfl (congrArg AV.i ?_)
  rcases hI with ⟨h1,h2,h3⟩|⟨h1,h2⟩
  ·rw[if_pos h1,h3,show dep cs c-level.toNat=0 by omega];rfl
  ·subst h2;omega
 ·rename_i nN _
  rcases hI with ⟨h1,h2,h3⟩|⟨h1,h2⟩
  ·have vn:0<c:=by
    rcases Nat.eq_zero_or_pos c with e|e
    ·subst e;rw[Tb hb nJ]at *;omega
    ·exact e
   obtain⟨e1,e2,e3⟩:=PY hb nJ vn
   have e4:dep cs c-level.toNat=(dep cs (par cs c)-level.toNat)+1:=by omega
   refine⟨par cs c,⟨by omega,.inl ⟨h1,by omega,by rw[h3,e4];rfl⟩⟩,e2,A7 h0 rfl ⟨congrArg (fun z:Int=>some (AV.i z)) e3.symm,rfl,rfl,congrArg (fun z:Int=>some (AV.i z)) (by omega),trivial⟩ ⟨rfl,trivial⟩ rfl rfl rfl⟩
  ·subst h2;omega
 ·refine A1 rfl (congrArg AV.i ?_)
  rcases hI with ⟨h1,h2,h3⟩|⟨h1,h2⟩
  ·omega
  ·rw[if_neg h1]
def AH(nm:List UInt8)(cs:List Code)(code nh:Int):Bool:=hasB nm cs code && hasB nm cs nh && decide (L3 nm cs code (dep cs nh.toNat)=nh)
theorem YK(nm:List UInt8)(cs:List Code)(code nh:Int)(nM:cs.length≤9223372036854775807):A3 Tryz.prog 242 [lA nm cs,.i code,.i nh] (.b (AH nm cs code nh)):=by
 have qC:=H4 cs
 refine B5 Tryz.func242 27 fun nL E h0=>?_
 repeat'((first|refine A0 (Ta _ _ _ nM) ?_|refine A0 (Kt _ _ _ _ nM) ?_|refine A0 (CQ _ _ (Cn (by assumption)).1.before (gG (by assumption))) ?_|(refine w6 ?_ ?_ (fun el nJ=>?_);(have:=Cn h;omega);(have:=Cn h;omega))|(refine A9 ?_ ?_;kernel_rfl) |refine S2 ?_|(refine T6 ?_ ?_<;>intro h<;>try exact V1 h)|intro el nJ nK|intro el nJ|exact T4|refine T5 ?_ ?_|intro ex)<;>try conv=>whnf)
 all_goals first
  |(refine A1 rfl (congrArg AV.b ?_);(simp only[AH, *,DE nJ,Bool.true_and];done))
  |(refine A1 rfl (congrArg AV.b ?_);(simp only[AH, *,Bool.false_and,Bool.and_false,Bool.true_and];done))
def Gb(cs:List Code)(level:Int)(k:Nat):List Nat:=(List.range k).filter fun i=>decide ((dep cs i:Int)=level)
theorem Eg(cs:List Code)(level:Int)(k:Nat):(Gb cs level k).length≤k:=by
 have:=List.length_filter_le (fun i=>decide ((dep cs i:Int)=level)) (List.range k)
 simpa [Gb]using this
theorem Ku{cs:List Code}{level:Int}{k:Nat}(h:(dep cs k:Int)=level):Gb cs level (k+1)=Gb cs level k++[k]:=by
 simp[Gb,List.range_succ,List.filter_append,h]
theorem OD{cs:List Code}{level:Int}{k:Nat}(h:¬(dep cs k:Int)=level):Gb cs level (k+1)=Gb cs level k:=by
 simp[Gb,List.range_succ,List.filter_append,h]
def H1(nm:List UInt8)(cs:List Code)(level:Int):List Nat:=if chk nm cs=0 then Gb cs level cs.length else []
theorem Hb(nm:List UInt8)(cs:List Code)(level:Int)(nM:cs.length≤9223372036854775807):A3 Tryz.prog 108 [lA nm cs,.i level] (.sl 1 ((H1 nm cs level).map iA)):=by
 have qC:=H4 cs
 refine B5 Tryz.func108 28 fun nL E h0=>?_
 repeat'((first|refine A0 (FN _ _ nM) ?_|refine A0 (CQ _ _ (G9 (by simpa using h)).1.before (Bi (nm:=nm) (by simpa using h))) ?_ |refine S2 ?_|(refine T6 ?_ ?_<;>intro h<;>try exact V1 h)|intro el nJ nK|intro el nJ|exact T4|refine T5 ?_ ?_|intro ex)<;>try conv=>whnf)
 case refine_1=>exact p8 (sz:=1) rfl (by rw[H1,if_neg h];rfl)
 have hc:chk nm cs=0:=by simpa using h
 have yU:=Bi hc
 rw[H1,if_pos hc]
 refine B0 (ι:=Nat) (fun k=>⟨[(1,.i level),(5,.row 1 0 (Gb cs level k).length),(12,.sl 1 ((O3 cs).map iA)),(13,.i (O3 cs).length),(14,.i k)],2,[(1,some (.row 3 1 0 ((Gb cs level k).map iA)))]⟩) (fun k=>k≤cs.length) (fun k=>cs.length-k) 0 (Nat.zero_le _) (C0 (I0 (d:=5) (e:=3) (sz:=1) rfl) (A7 h0 rfl ⟨rfl,rfl,rfl,rfl,rfl,trivial⟩ ⟨⟨0,rfl⟩,trivial⟩ rfl rfl rfl)) (fun k hI=>?_)
 have sk:=Eg cs level k
 repeat'((first|(refine J0 ?_ ?_;(intro tQ sP u hu;cases sP with|head=>(cases hu with|head=>exact rfl|tail _ h=>cases h)|tail _ h=>cases h))|(refine J0 ?_ ?_;(constructor<;>(simp only[L6,K4,List.length_cons,List.length_nil];omega))) |refine S2 ?_|(refine T6 ?_ ?_<;>intro h<;>try exact V1 h)|intro el nJ nK|intro el nJ|exact T4|refine T5 ?_ ?_|intro ex)<;>try conv=>whnf)
 ·have hd:(dep cs k:Int)=level:=by rw[DE nJ];exact h
  refine⟨k+1,?_,?_,A7 h0 rfl ⟨rfl,congrArg (fun z=>some (AV.row 1 0 z)) ?_,rfl,rfl,rfl,trivial⟩ ⟨⟨0,congrArg (C4.row 3 1 0) ?_⟩,trivial⟩ rfl rfl rfl⟩
  ·omega
  ·omega
  ·rw[Ku hd,List.length_append];rfl
  ·rw[Ku hd,List.map_append];rfl
 ·have hd:¬(dep cs k:Int)=level:=by rw[DE nJ];exact h
  refine⟨k+1,?_,?_,A7 h0 rfl ⟨rfl,congrArg (fun z=>some (AV.row 1 0 z)) ?_,rfl,rfl,rfl,trivial⟩ ⟨⟨0,congrArg (C4.row 3 1 0) ?_⟩,trivial⟩ rfl rfl rfl⟩
  ·omega
  ·omega
  ·rw[OD hd]
  ·rw[OD hd]
 ·apply A1
  ·rfl
  ·rw[show cs.length=k by omega]
   rfl
end Go.Proofs.YtiphlhoclaogjaaGreatDoor
namespace Go.Proofs.YtiphlhoclaogjaaGreatDoor
open Go Go.Av
set_option maxRecDepth 100000
def gH(n:Int):Prop:=-9223372036854775808≤n∧n≤9223372036854775807
theorem Gy{f:Nat}{l:List AV}(h:Sh Tryz.prog f 3 l):∃n,gH n∧l=[.i n]:=by
 obtain⟨n,h1,h2⟩:=TQ Tryz.underlying3 h
 exact⟨n,wf_i64 h1,h2⟩
theorem kZ{a:AV}(h:s7 Tryz.prog 22 a):∃l:List UInt8,l.length≤maxLen∧a=.sl 1 (l.map P9):=aY Tryz.underlying22 Tryz.underlying5 (by kernel_rfl) h
theorem gI{a:AV}(h:s7 Tryz.prog 3 a):∃n,gH n∧a=.i n:=gy Tryz.underlying3 h
end Go.Proofs.YtiphlhoclaogjaaGreatDoor
