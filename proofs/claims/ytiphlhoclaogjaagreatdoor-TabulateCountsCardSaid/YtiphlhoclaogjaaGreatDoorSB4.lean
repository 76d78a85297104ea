/- Plain lists: the first error, the first place, and what was passed. Chapter 1: names, and what they are. Chapter 1: the levels of codes. Chapter 1: leaves and depths, by the reference. Chapter 1: the check of a list. Chapter 1: the check of a list, by the reference. Chapter 1: levels, ancestors, codes of a level. Chapter 1: ancestors. Chapter 1: what stands below, codes of a level, codes with a name. Chapter 1: the codes of a level, and the example. Code lists that came in. -/
import Derived.Test.YtiphlhoclaogjaaGreatDoorSAvTy
import Derived.Test.YtiphlhoclaogjaaGreatDoorSE3
set_option linter.unusedVariables false
set_option linter.unnecessarySimpa false
set_option linter.unusedSimpArgs false
set_option maxHeartbeats 64000000
namespace Go.Proofs.YtiphlhoclaogjaaGreatDoor
open Go Go.Av
attribute [local irreducible] C7 B2 D3 C9 DQ D0 C8 St.le A3 B9
set_option maxRecDepth 100000
theorem G3{α:Type}{l:List α}{k:Nat}{x:α}(h:l[k]?=some x):l.drop k=x::l.drop (k+1):=by
 obtain⟨h1,h2⟩:=List.getElem?_eq_some_iff.1 h
 rw[List.drop_eq_getElem_cons h1,h2]
theorem H6{α:Type}{l:List α}{k:Nat}{x:α}(h:l[k]?=some x):l.take (k+1)=l.take k++[x]:=by
 rw[List.take_add_one,h];rfl
theorem S6{α:Type}{l:List α}{k:Nat}(h:¬(k:Int)<l.length):l.drop k=[]:=List.drop_eq_nil_of_le (by omega)
theorem DZ{α:Type}{l:List α}{k:Nat}(h:¬(k:Int)<l.length):l.take k=l:=List.take_of_length_le (by omega)
theorem F5{α:Type}{l:List α}{k:Nat}{x:α}(h:l[k]?=some x):k<l.length:=(List.getElem?_eq_some_iff.1 h).1
def F4{α:Type}(p:α→Bool):List α→Int→Int
 |[],_=>-1
 |x::r,k=>if p x=true then k else F4 p r (k+1)
theorem CJ{α:Type}(p:α→Bool):∀(l:List α) (k:Int),0≤k→decide (0≤F4 p l k)=l.any p
 |[],k,_=>by simp[F4]
 |x::r,k,h=>by
  unfold F4
  by_cases hp:p x=true
  ·rw[if_pos hp];simp[hp,h]
  ·rw[if_neg hp,CJ p r (k+1) (by omega)]
   simp[hp]
theorem Ob{α:Type}(p:α→Bool):∀(l:List α) (k:Int),F4 p l k=-1∨(k≤F4 p l k∧F4 p l k<k+l.length)
 |[],k=>.inl rfl
 |x::r,k=>by
  unfold F4
  by_cases hp:p x=true
  ·rw[if_pos hp];right;simp;omega
  ·rw[if_neg hp]
   rcases Ob p r (k+1)with h|h
   ·exact .inl h
   ·right;simp;omega
def F0{α:Type}(f:Nat→α→Int):Nat→List α→Int
 |_,[]=>0
 |i,x::r=>if f i x=0 then F0 f (i+1) r else f i x
def E9{α:Type}(f:Nat→α→Int)(l:List α)(k:Nat):Prop:=k≤l.length∧F0 f 0 l=F0 f k (l.drop k)∧∀(i:Nat) x,i<k→l[i]?=some x→f i x=0
theorem E9.zero{α:Type}(f:Nat→α→Int)(l:List α):E9 f l 0:=⟨Nat.zero_le _,rfl,fun i x h=>absurd h (Nat.not_lt_zero _)⟩
theorem E9.step{α:Type}{f:Nat→α→Int}{l:List α}{k:Nat}{x:α}(h:E9 f l k)(hx:l[k]?=some x)(h0:f k x=0):E9 f l (k+1):=by
 refine⟨F5 hx,?_,fun i y hi hy=>?_⟩
 ·rw[h.2.1,G3 hx,F0,if_pos h0]
 ·by_cases e:i=k
  ·subst e;rw[hx]at hy;cases hy;exact h0
  ·exact h.2.2 i y (by omega) hy
theorem E9.hit{α:Type}{f:Nat→α→Int}{l:List α}{k:Nat}{x:α}(h:E9 f l k)(hx:l[k]?=some x)(h0:¬f k x=0):f k x=F0 f 0 l:=by
 rw[h.2.1,G3 hx,F0,if_neg h0]
theorem E9.done{α:Type}{f:Nat→α→Int}{l:List α}{k:Nat}(h:E9 f l k)(hk:¬(k:Int)<l.length):F0 f 0 l=0:=by
 rw[h.2.1,S6 hk];rfl
theorem R6{α:Type}{f:Nat→α→Int}:∀{l:List α} {k:Nat},F0 f k l=0→∀(i:Nat) x,l[i]?=some x→f (k+i) x=0
 |[],k,_,i,x,h=>by simp at h
 |y::r,k,h,i,x,hx=>by
  unfold F0 at h
  split at h
  ·cases i with
   |zero=>simp at hx;subst hx;assumption
   |succ i =>
    have:=R6 h i x (by simpa using hx)
    rw[show k+(i+1)=k+1+i by omega];exact this
  ·exact absurd h (by assumption)
def P7{α:Type}(p:α→Bool)(l:List α)(k:Nat):Prop:=k≤l.length∧∀x∈l.take k,p x=false
theorem P7.zero{α:Type}(p:α→Bool)(l:List α):P7 p l 0:=⟨Nat.zero_le _,fun x hx=>by simp at hx⟩
theorem P7.step{α:Type}{p:α→Bool}{l:List α}{k:Nat}{x:α}(h:P7 p l k)(hx:l[k]?=some x)(h0:p x=false):P7 p l (k+1):=by
 refine⟨F5 hx,fun y hy=>?_⟩
 rw[H6 hx]at hy
 rcases List.mem_append.1 hy with hy|hy
 ·exact h.2 y hy
 ·simp at hy;subst hy;exact h0
theorem P7.hit{α:Type}{p:α→Bool}{l:List α}{k:Nat}{x:α}(h:P7 p l k)(hx:l[k]?=some x)(h0:p x=true):true=l.any p :=
 (List.any_eq_true.2 ⟨x,List.mem_of_getElem? hx,h0⟩).symm
theorem P7.done{α:Type}{p:α→Bool}{l:List α}{k:Nat}(h:P7 p l k)(hk:¬(k:Int)<l.length):false=l.any p:=by
 have:=h.2
 rw[DZ hk]at this
 exact(List.any_eq_false.2 (fun x hx=>by simp[this x hx])).symm
end Go.Proofs.YtiphlhoclaogjaaGreatDoor
namespace Go.Proofs.YtiphlhoclaogjaaGreatDoor
open Go Go.Av
attribute [local irreducible] C7 B2 D3 DQ D0 C8 St.le A3 B9
def Cw(c:UInt8):Bool:=decide (97≤c.toNat∧c.toNat≤122∨48≤c.toNat∧c.toNat≤57∨c.toNat=95)
def words:List (List UInt8):=[[97,108,108],[97,110,100],[101,118,101,110,116],[102,114,111,109],[109,105,115,115,105,110,103],[110,111,116],[111,110],[111,114],[116,111],[117,110,100,101,114],[119,104,101,114,101]]
def NI(l:List UInt8):Bool:=match l with|[]=>false|c::_=>decide (97≤c.toNat∧c.toNat≤122)
def D6(l:List UInt8):Bool:=decide (l.length≤16) && NI l && l.all Cw && !(decide (l∈words))
theorem Ku{l:List UInt8}(h:(l.length:Int)<1):false=D6 l:=by
 have:l=[]:=List.eq_nil_of_length_eq_zero (by omega)
 subst this;rfl
theorem NJ{l:List UInt8}(h:16<(l.length:Int)):false=D6 l:=by
 have:¬l.length≤16:=by omega
 simp[D6,this]
theorem NK{l:List UInt8}{el:UInt8}(lU:l[Int.toNat 0]?=some el)(h:(el.toNat:Int)<97∨122<(el.toNat:Int)):false=D6 l:=by
 cases l with
 |nil=>rfl
 |cons c r =>
  have:c=el:=by simpa using lU
  subst this
  have:¬(97≤c.toNat∧c.toNat≤122):=by omega
  simp[D6,NI];omega
theorem Pu{l:List UInt8}{k:Nat}{el:UInt8}(lU:l[k]?=some el)(h:¬(97≤el.toNat∧el.toNat≤122∨48≤el.toNat∧el.toNat≤57∨el.toNat=95)):false=D6 l:=by
 have:l.all Cw=false:=by
  rw[List.all_eq_false]
  exact⟨el,List.mem_of_getElem? lU,by simp[Cw];omega⟩
 simp[D6,this]
theorem NM{l:List UInt8}(h:l∈words):false=D6 l:=by simp[D6,h]
theorem NN{l:List UInt8}{a b:UInt8}{k:Nat}(h1:¬16<(l.length:Int))(h2:¬(a.toNat:Int)<97)(ha:l[Int.toNat 0]?=some a)(h3:¬122<(b.toNat:Int))(hb:l[Int.toNat 0]?=some b)(h4:∀c∈l.take k,Cw c=true)(h5:¬(k:Int)<l.length)(h6:l∉words):true=D6 l:=by
 rw[ha]at hb
 cases hb
 have e:l.take k=l:=List.take_of_length_le (by omega)
 rw[e]at h4
 have:NI l=true:=by
  cases l with
  |nil=>cases ha
  |cons c r=>cases ha;simp[NI];omega
 simp[D6,this,h6]
 exact⟨by omega,h4⟩
theorem Vv{l:List UInt8}{k:Nat}{el:UInt8}(hI:∀c∈l.take k,Cw c=true)(lU:l[k]?=some el)(h:97≤el.toNat∧el.toNat≤122∨48≤el.toNat∧el.toNat≤57∨el.toNat=95):∀c∈l.take (k+1),Cw c=true:=by
 intro c hc
 rw[List.take_add_one,lU]at hc
 rcases List.mem_append.1 hc with hc|hc
 ·exact hI c hc
 ·simp at hc;subst hc;simpa [Cw]using h
theorem CZ(l:List UInt8):A3 Tryz.prog 99 [.str l] (.b (D6 l)):=by
 refine B6 Tryz.func99 62 fun lW E h0=>?_
 repeat'((first|refine S2 ?_|(refine T6 ?_ ?_<;>intro h<;>try exact V1 h)|intro el lU lV|intro el lU|exact T4|refine T5 ?_ ?_|intro ex)<;>try conv=>whnf)
 rotate_left
 ·refine B0 (ι:=Nat) (fun k=>⟨[(0,.str l),(24,.sl 1 (l.map fun b=>[.v (.int .u8 b.toNat)])),(25,.i l.length),(26,.i k)],0,[]⟩) (fun k=>∀c∈l.take k,Cw c=true) (fun k=>l.length-k) 0 (by simp) (A6 h0) (fun k hI=>?_)
  repeat'((first|refine S2 ?_|(refine T6 ?_ ?_<;>intro h<;>try exact V1 h)|intro el lU lV|intro el lU|exact T4|refine T5 ?_ ?_|intro ex)<;>try conv=>whnf)
  all_goals first
   |exact⟨k+1,Vv hI lU (by omega),by omega,A6 h0⟩
   |(refine A0 rfl (congrArg AV.b ?_);first|exact Pu lU (by omega)|exact NM (by subst h;decide)|exact NN (by assumption) (by assumption) (by assumption) (by assumption) (by assumption) hI (by assumption) (by simp[words, *]))
 all_goals (refine A0 rfl (congrArg AV.b ?_);first|exact Ku h|exact NJ h|exact NK lU (by omega))
theorem AE(l:List UInt8):A3 Tryz.prog 81 [.str l] (.b (D6 l)):=by
 refine B6 Tryz.func81 70 fun lW E h0=>?_
 repeat'((first|refine S2 ?_|(refine T6 ?_ ?_<;>intro h<;>try exact V1 h)|intro el lU lV|intro el lU|exact T4|refine T5 ?_ ?_|intro ex)<;>try conv=>whnf)
 rotate_left
 ·refine B0 (ι:=Nat) (fun k=>⟨[(0,.str l),(3,.i k)],0,[]⟩) (fun k=>∀c∈l.take k,Cw c=true) (fun k=>l.length-k) 0 (by simp) (A6 h0) (fun k hI=>?_)
  repeat'((first|refine S2 ?_|(refine T6 ?_ ?_<;>intro h<;>try exact V1 h)|intro el lU lV|intro el lU|exact T4|refine T5 ?_ ?_|intro ex)<;>try conv=>whnf)
  all_goals first
   |exact⟨k+1,Vv hI lU (by omega),by omega,A6 h0⟩
   |(refine A0 rfl (congrArg AV.b ?_);first|exact Pu lU (by omega)|exact NM (by subst h;decide)|exact NN (by assumption) (by assumption) (by assumption) (by assumption) (by assumption) hI (by assumption) (by simp[words, *]))
 all_goals first
  |(refine A0 rfl (congrArg AV.b ?_);first|exact Ku h|exact NJ h|exact NK lU (by omega))
structure Code where
 name:List UInt8
 parent:Int
deriving DecidableEq
abbrev cA(c:Code):List AV:=[.str c.name,.i c.parent]
abbrev iA(d:Nat):List AV:=[.i (d:Int)]
abbrev lA(nm:List UInt8)(cs:List Code):AV:=.agg [.str nm,.sl 2 (cs.map cA)]
def p0:List Nat→List Code→List Nat
 |out,[]=>out
 |out,c::r=>p0 (out++[if out=[]then 0 else out.getD c.parent.toNat 0+1]) r
def N8(cs:List Code):List Nat:=p0 [] cs
theorem Fm:∀(cs:List Code) (out:List Nat),(p0 out cs).length=out.length+cs.length
 |[],out=>rfl
 |c::r,out=>by simp only[p0,Fm r];simp;omega
theorem H5(cs:List Code):(N8 cs).length=cs.length:=by simp[N8,Fm]
theorem FC:∀(cs:List Code) (out:List Nat) (j:Nat),j<out.length→(p0 out cs)[j]?=out[j]?
 |[],out,j,_=>rfl
 |c::r,out,j,h=>by
  simp only[p0]
  rw[FC r _ j (by simp;omega),List.getElem?_append_left h]
theorem IZ:∀(cs:List Code) (out:List Nat) (k:Nat) (c:Code),cs[k]?=some c→((out++[]=[]∧k=0)∨True) →
  (p0 out cs)[out.length+k]?=some (if out.length+k=0 then 0 else if c.parent.toNat<out.length+k then (p0 out cs).getD c.parent.toNat 0+1 else 1)
 |[],out,k,c,h,_=>by simp at h
 |a::r,out,0,c,h,_=>by
  simp at h
  subst h
  simp only[p0,Nat.add_zero]
  rw[FC _ _ _ (by simp)]
  simp only[List.getElem?_append_right (Nat.le_refl _),Nat.sub_self,List.getElem?_cons_zero]
  congr 1
  by_cases e:out=[]
  ·subst e;simp
  ·have hl:¬out.length=0:=by simpa using e
   rw[if_neg e,if_neg hl]
   by_cases hp:a.parent.toNat<out.length
   ·rw[if_pos hp,List.getD_eq_getElem?_getD,List.getD_eq_getElem?_getD,FC _ _ _ (by simp;omega),List.getElem?_append_left hp]
   ·rw[if_neg hp,List.getD_eq_getElem?_getD,List.getElem?_eq_none (by omega)]
    rfl
 |a::r,out,k+1,c,h,_=>by
  simp only[p0]
  have:=IZ r (out++[if out=[]then 0 else out.getD a.parent.toNat 0+1]) k c (by simpa using h) (.inr trivial)
  simp only[List.length_append,List.length_cons,List.length_nil]at this
  rw[show out.length+(k+1)=out.length+(0+1)+k by omega]
  exact this
def FF(cs:List Code):Prop:=∀(i:Nat) c,cs[i]?=some c→0<i→0≤c.parent∧c.parent<i
theorem CK{cs:List Code}(h:FF cs){k:Nat}{c:Code}(hc:cs[k]?=some c):(N8 cs)[k]?=some (if k=0 then 0 else (N8 cs).getD c.parent.toNat 0+1):=by
 have h1:=IZ cs [] k c hc (.inr trivial)
 simp only[List.length_nil,Nat.zero_add]at h1
 unfold N8
 rw[h1]
 congr 1
 by_cases e:k=0
 ·simp[e]
 ·rw[if_neg e,if_neg e]
  have:=h k c hc (by omega)
  rw[if_pos (by omega)]
def BD(D:List Nat)(n k:Nat):List Nat:=D.take k++List.replicate (n-k) 0
theorem Kv{D:List Nat}{n k:Nat}(hD:D.length=n)(hk:k≤n):(BD D n k).length=n:=by simp[BD,hD];omega
theorem SZ{D:List Nat}{n k i:Nat}(hD:D.length=n)(hk:k≤n)(hi:i<k):(BD D n k)[i]?=D[i]?:=by
 rw[BD,List.getElem?_append_left (by simp;omega),List.getElem?_take_of_lt hi]
theorem cY{D:List Nat}{n k:Nat}{d:Nat}(hD:D.length=n)(hk:k<n)(hd:D[k]?=some d):((BD D n k).map iA).set k (iA d)=(BD D n (k+1)).map iA:=by
 have e:n-k=(n-(k+1))+1:=by omega
 have h1:(D.take k).length=k:=by rw[List.length_take];omega
 rw[BD,e,List.replicate_succ,BD,List.take_add_one,hd]
 rw[List.map_append,List.map_cons,List.set_append_right _ _ (by rw[List.length_map,h1];exact Nat.le_refl _),List.length_map,h1,Nat.sub_self]
 simp
theorem Zl(D:List Nat)(n:Nat):(BD D n 0).map iA=List.replicate n (iA 0):=by simp[BD]
theorem Zm{D:List Nat}{n:Nat}(hD:D.length=n):BD D n n=D:=by simp[BD,←hD]
theorem Zn{D:List Nat}{n k:Nat}(hD:D.length=n)(hk:k<n)(hd:D[k]?=some 0):BD D n k=BD D n (k+1):=by
 have e:n-k=(n-(k+1))+1:=by omega
 rw[BD,e,List.replicate_succ,BD,List.take_add_one,hd]
 simp
theorem KK{cs:List Code}(h:FF cs):∀(j d:Nat),(N8 cs)[j]?=some d→d≤j:=by
 intro j
 induction j using Nat.strongRecOn with
 |_ j ih =>
  intro d hd
  have lY:j<cs.length:=by rw[←H5 cs];exact(List.getElem?_eq_some_iff.1 hd).1
  have hc:=List.getElem?_eq_getElem lY
  rw[CK h hc]at hd
  by_cases e:j=0
  ·simp[e]at hd;omega
  ·rw[if_neg e]at hd
   obtain⟨h1,h2⟩:=h j _ hc (by omega)
   have hp:(cs[j].parent).toNat<j:=by omega
   have hp2:(cs[j].parent).toNat<(N8 cs).length:=by rw[H5];omega
   have:=ih _ hp _ (List.getElem?_eq_getElem hp2)
   rw[List.getD_eq_getElem?_getD,List.getElem?_eq_getElem hp2]at hd
   simp at hd
   omega
theorem Br(nm:List UInt8)(cs:List Code)(hb:FF cs)(lX:cs.length≤1000000):A3 Tryz.prog 165 [lA nm cs] (.sl 1 ((N8 cs).map iA)):=by
 have hD:=H5 cs
 refine B6 Tryz.func165 31 fun lW E h0=>?_
 repeat'((first|refine S2 ?_|(refine T6 ?_ ?_<;>intro h<;>try exact V1 h)|intro el lU lV|intro el lU|exact T4|refine T5 ?_ ?_|intro ex)<;>try conv=>whnf)
 refine B0 (ι:=Nat) (fun k=>⟨[(1,.ref 0 0),(3,.row 1 0 cs.length),(11,.sl 2 (cs.map cA)),(12,.i cs.length),(13,.i k)],2,[(0,some (.box [.str nm,.sl 2 (cs.map cA)])),(1,some (.row 3 1 0 ((BD (N8 cs) cs.length k).map iA)))]⟩) (fun k=>k≤cs.length) (fun k=>cs.length-k) 0 (Nat.zero_le _) (A9 h0 rfl ⟨rfl,rfl,rfl,rfl,rfl,trivial⟩ ⟨rfl,⟨0,by rw[Zl];rfl⟩,trivial⟩ rfl rfl rfl) (fun k hI=>?_)
 repeat'((first|(refine I4 ?_ ?_;(have:=hb k el lU (by omega);omega))|(refine Az ?_ (fun x hx=>?_);(rw[Kv hD hI];have:=hb k el lU (by omega);omega))|(refine I4 ?_ ?_;(have h5:=hb k el lU (by omega);have h6:=KK hb el.parent.toNat x (by rw[←SZ hD hI (by omega)];exact hx);omega))|(refine Az ?_ (fun y hy=>?_);(rw[Kv hD hI];omega)) |refine S2 ?_|(refine T6 ?_ ?_<;>intro h<;>try exact V1 h)|intro el lU lV|intro el lU|exact T4|refine T5 ?_ ?_|intro ex)<;>try conv=>whnf)
 rotate_left
 ·refine⟨k+1,?_,?_,A9 h0 rfl ⟨rfl,rfl,rfl,rfl,rfl,trivial⟩ ⟨rfl,⟨0,?_⟩,trivial⟩ rfl rfl rfl⟩
  ·omega
  ·omega
  ·have pk:k=0:=by omega
   exact congrArg (fun l=>C6.row 3 1 0 (l.map iA)) (Zn (k:=k) hD (by omega) (by rw[CK hb lU,if_pos pk])).symm
 ·apply A0
  ·rfl
  ·have e:k=cs.length:=by omega
   subst e
   exact congrArg (fun l=>AV.sl 1 (l.map iA)) (Zm hD)
 ·rename_i _ z hz
  refine⟨k+1,?_,?_,A9 h0 rfl ⟨rfl,rfl,rfl,rfl,rfl,trivial⟩ ⟨rfl,⟨0,congrArg (C6.row 3 1 0) (cY hD ?_ ?_).symm⟩,trivial⟩ rfl rfl rfl⟩
  ·omega
  ·omega
  ·omega
  ·have h5:=hb k el lU (by omega)
   rw[SZ hD hI (by omega)]at hz
   rw[CK hb lU,if_neg (by omega),List.getD_eq_getElem?_getD,hz]
   rfl
def W5(cs:List Code)(code:Int):Bool:=cs.all fun c=>decide (c.parent≠code)
theorem Sa{α:Type}{l:List α}{p:α→Prop}{k:Nat}{el:α}(hI:∀c∈l.take k,p c)(lU:l[k]?=some el)(h:p el):∀c∈l.take (k+1),p c:=by
 intro c hc
 rw[List.take_add_one,lU]at hc
 rcases List.mem_append.1 hc with hc|hc
 ·exact hI c hc
 ·simp at hc;subst hc;exact h
theorem fZ{cs:List Code}{code:Int}{k:Nat}{el:Code}(lU:cs[k]?=some el)(h:el.parent=code):false=W5 cs code:=by
 refine(List.all_eq_false.2 ⟨el,List.mem_of_getElem? lU,by simp[h]⟩).symm
theorem cZ{cs:List Code}{code:Int}{k:Nat}(hI:∀c∈cs.take k,c.parent≠code)(h:¬(k:Int)<cs.length):true=W5 cs code:=by
 have e:cs.take k=cs:=List.take_of_length_le (by omega)
 rw[e]at hI
 exact(List.all_eq_true.2 fun c hc=>by simpa using hI c hc).symm
theorem Zo(nm:List UInt8)(cs:List Code)(code:Int)(lX:cs.length≤9223372036854775807):A3 Tryz.prog 134 [lA nm cs,.i code] (.b (W5 cs code)):=by
 refine B6 Tryz.func134 21 fun lW E h0=>?_
 repeat'((first|refine S2 ?_|(refine T6 ?_ ?_<;>intro h<;>try exact V1 h)|intro el lU lV|intro el lU|exact T4|refine T5 ?_ ?_|intro ex)<;>try conv=>whnf)
 refine B0 (ι:=Nat) (fun k=>⟨[(1,.i code),(2,.ref 0 0),(5,.i k)],1,[(0,some (.box [.str nm,.sl 2 (cs.map cA)]))]⟩) (fun k=>∀c∈cs.take k,c.parent≠code) (fun k=>cs.length-k) 0 (by simp) (A6 h0) (fun k hI=>?_)
 repeat'((first|refine S2 ?_|(refine T6 ?_ ?_<;>intro h<;>try exact V1 h)|intro el lU lV|intro el lU|exact T4|refine T5 ?_ ?_|intro ex)<;>try conv=>whnf)
 all_goals first
  |exact⟨k+1,Sa hI lU h,by omega,A6 h0⟩
  |(refine A0 rfl (congrArg AV.b ?_);first|exact fZ lU h|exact cZ hI h)
structure Good(cs:List Code):Prop where
 before:FF cs
 root:∀c,cs[0]?=some c→c.parent=-1
theorem BU(nm:List UInt8)(cs:List Code)(code d:Nat)(hg:Good cs)(lX:cs.length≤9223372036854775807)(hd:(N8 cs)[code]?=some d):A3 Tryz.prog 78 [lA nm cs,.i code] (.i d):=by
 have hb:=hg.before
 have oa:=KK hb
 have ly:code<cs.length:=by rw[←H5 cs];exact(List.getElem?_eq_some_iff.1 hd).1
 refine B6 Tryz.func78 22 fun lW E h0=>?_
 repeat'((first|refine S2 ?_|(refine T6 ?_ ?_<;>intro h<;>try exact V1 h)|intro el lU lV|intro el lU|exact T4|refine T5 ?_ ?_|intro ex)<;>try conv=>whnf)
 refine B0 (ι:=Nat×Nat) (fun x=>⟨[(1,.i x.1),(2,.ref 0 0),(5,.i x.2)],1,[(0,some (.box [.str nm,.sl 2 (cs.map cA)]))]⟩) (fun x=>x.1≤code∧(N8 cs)[x.1]?.map (·+x.2)=some d) (fun x=>x.1) (code,0) ⟨Nat.le_refl _,by simp[hd]⟩ (A6 h0) (fun x hI=>?_)
 obtain⟨j,m⟩:=x
 obtain⟨hj,hI⟩:=hI
 rw[Option.map_eq_some_iff]at hI
 obtain⟨dj,wX,yH⟩:=hI
 have hdjl:=oa _ _ hd
 simp only at hj wX yH
 repeat'((first|refine S2 ?_|(refine T6 ?_ ?_<;>intro h<;>try exact V1 h)|intro el lU lV|intro el lU|exact T4|refine T5 ?_ ?_|intro ex)<;>try conv=>whnf)
 ·have nT:cs[j]?=some el:=lU
  have nu:0<j:=by
   rcases Nat.eq_zero_or_pos j with e|e
   ·subst e;have:=hg.root el nT;omega
   ·exact e
  obtain⟨h1,h2⟩:=hb j el nT nu
  have h3:=CK hb nT
  rw[wX,if_neg (by omega)]at h3
  have hp:el.parent.toNat<(N8 cs).length:=by rw[H5];omega
  rw[List.getD_eq_getElem?_getD,List.getElem?_eq_getElem hp]at h3
  simp at h3
  refine⟨(el.parent.toNat,m+1),⟨?_,?_⟩,?_,A9 h0 rfl ⟨congrArg (fun z=>some (AV.i z)) (Int.toNat_of_nonneg h1).symm,rfl,rfl,trivial⟩ ⟨rfl,trivial⟩ rfl rfl rfl⟩
  ·simp only;omega
  ·simp only[List.getElem?_eq_getElem hp,Option.map_some]
   congr 1
   omega
  ·simp only;omega
 ·refine A0 rfl (congrArg (fun z:Nat=>AV.i (z:Int)) ?_)
  have nT:cs[j]?=some el:=lU
  have nu:j=0:=by
   rcases Nat.eq_zero_or_pos j with e|e
   ·exact e
   ·have:=hb j el nT e;omega
  subst nu
  rw[CK hb nT,if_pos rfl]at wX
  cases wX
  omega
def FG(i:Nat)(p:Int):Bool:=if i=0 then decide (p≠-1)else decide (p<0∨(i:Int)≤p)
def scan:List Code→List Code→Option Int
 |_,[]=>none
 |pre,c::r=>if D6 c.name=false then some 3 else if c.name∈pre.map (·.name)then some 10 else if FG pre.length c.parent=true then some 6 else scan (pre++[c]) r
def lv:Int→List (Bool×Nat)→Bool
 |_,[]=>true
 |l,(lf,d)::r=>if lf=true then (if 0≤l∧(d:Int)≠l then false else lv d r)else lv l r
def s5(cs:List Code):List (Bool×Nat):=(List.range cs.length).map fun (i:Nat)=>(W5 cs i,(N8 cs).getD i 0)
def chk(nm:List UInt8)(cs:List Code):Int :=
 if D6 nm=false then 3 else if cs.length=0 then 5 else if 60<cs.length then 1 else match scan [] cs with
 |some e=>e
 |none=>if lv (-1) (s5 cs)=true then 0 else 5
theorem Sb{nm:List UInt8}{cs:List Code}(h:D6 nm=false):3=chk nm cs:=by simp[chk,h]
theorem Vw{nm:List UInt8}{cs:List Code}(h:D6 nm=true)(h2:(cs.length:Int)=0):5=chk nm cs:=by
 have:cs.length=0:=by omega
 simp[chk,h,this]
theorem Sc{nm:List UInt8}{cs:List Code}(h:D6 nm=true)(h3:(60:Int)<cs.length):1=chk nm cs:=by
 have h1:¬cs.length=0:=by omega
 have h2:60<cs.length:=by omega
 simp only[chk,h,h1,h2,if_true,if_false,Bool.true_eq_false]
theorem Da{nm:List UInt8}{cs:List Code}{e:Int}(h:D6 nm=true)(h1:¬(cs.length:Int)=0)(h2:¬(60:Int)<cs.length)(h3:scan [] cs=some e):e=chk nm cs:=by
 have h1:¬cs.length=0:=by omega
 have h2:¬60<cs.length:=by omega
 simp only[chk,h,h1,h2,if_false,Bool.true_eq_false,h3]
theorem Zp{nm:List UInt8}{cs:List Code}{b:Bool}(h:D6 nm=true)(h1:¬(cs.length:Int)=0)(h2:¬(60:Int)<cs.length)(h3:scan [] cs=none)(h4:lv (-1) (s5 cs)=b):(if b=true then 0 else 5:Int)=chk nm cs:=by
 have h1:¬cs.length=0:=by omega
 have h2:¬60<cs.length:=by omega
 simp only[chk,h,h1,h2,if_false,Bool.true_eq_false,h3,h4]
theorem BE{α:Type}{l:List α}{k:Nat}{x:α}(h:l[k]?=some x):l.drop k=x::l.drop (k+1):=by
 obtain⟨h1,h2⟩:=List.getElem?_eq_some_iff.1 h
 rw[List.drop_eq_getElem_cons h1,h2]
theorem Pv{α:Type}{l:List α}{k:Nat}{x:α}(h:l[k]?=some x):l.take (k+1)=l.take k++[x]:=by
 rw[List.take_add_one,h];rfl
def u7(cs:List Code)(k:Nat):Prop:=k≤cs.length∧scan [] cs=scan (cs.take k) (cs.drop k)
theorem u7.step{cs:List Code}{k:Nat}{c:Code}(h:u7 cs k)(hc:cs[k]?=some c)(h1:D6 c.name=true)(h2:c.name∉(cs.take k).map (·.name))(h3:FG k c.parent=false):u7 cs (k+1):=by
 have lY:=(List.getElem?_eq_some_iff.1 hc).1
 refine⟨lY,?_⟩
 have hl:(cs.take k).length=k:=by rw[List.length_take];omega
 rw[h.2,BE hc,Pv hc]
 simp only[scan,h1,h2,hl,h3,Bool.true_eq_false,if_false,Bool.false_eq_true]
theorem u7.name{cs:List Code}{k:Nat}{c:Code}(h:u7 cs k)(hc:cs[k]?=some c)(h1:D6 c.name=false):scan [] cs=some 3:=by
 rw[h.2,BE hc];simp only[scan,h1,if_true]
theorem u7.dup{cs:List Code}{k:Nat}{c:Code}(h:u7 cs k)(hc:cs[k]?=some c)(h1:D6 c.name=true)(h2:c.name∈(cs.take k).map (·.name)):scan [] cs=some 10:=by
 rw[h.2,BE hc];simp only[scan,h1,h2,if_true,Bool.true_eq_false,if_false]
theorem u7.bad{cs:List Code}{k:Nat}{c:Code}(h:u7 cs k)(hc:cs[k]?=some c)(h1:D6 c.name=true)(h2:c.name∉(cs.take k).map (·.name))(h3:FG k c.parent=true):scan [] cs=some 6:=by
 have lY:=(List.getElem?_eq_some_iff.1 hc).1
 have hl:(cs.take k).length=k:=by rw[List.length_take];omega
 rw[h.2,BE hc];simp only[scan,h1,h2,hl,h3,if_true,Bool.true_eq_false,if_false]
theorem u7.done{cs:List Code}{k:Nat}(h:u7 cs k)(hk:¬(k:Int)<cs.length):scan [] cs=none:=by
 have e:k=cs.length:=by have:=h.1;omega
 rw[h.2,e,List.drop_length];rfl
def KL(cs:List Code)(k:Nat):List (Key×AV):=(cs.take k).map fun c=>(Key.s c.name,AV.b true)
theorem XS(cs:List Code)(k:Nat):s9 .string (KL cs k):=by
 intro p hp
 obtain⟨c,_,rfl⟩:=List.mem_map.1 hp
 rfl
theorem ca(l:List Code)(n:List UInt8):AD (l.map fun c=>(Key.s c.name,AV.b true)) (.s n) (b6 (.bool false))=.b (decide (n∈l.map (·.name))):=by
 induction l with
 |nil=>rfl
 |cons a r ih =>
  unfold AD o7 at ih ⊢
  rw[List.map_cons,List.find?_cons]
  by_cases e:a.name=n
  ·subst e;simp
  ·have:¬n=a.name:=fun h=>e h.symm
   simp only[Key.s.injEq,e,decide_false]
   rw[ih]
   simp[this]
theorem cc(cs:List Code)(k:Nat)(n:List UInt8):AD (KL cs k) (.s n) (b6 (.bool false))=.b (decide (n∈(cs.take k).map (·.name))):=ca _ n
theorem ce(l:List Code)(n:List UInt8)(h:n∉l.map (·.name)):Y7 (l.map fun c=>(Key.s c.name,AV.b true)) (.s n) (.b true)=(l.map fun c=>(Key.s c.name,AV.b true))++[(.s n,.b true)]:=by
 induction l with
 |nil=>rfl
 |cons a r ih =>
  simp only[List.map_cons,List.mem_cons,not_or]at h
  have:¬Key.s a.name=Key.s n:=by simp;exact fun e=>h.1 e.symm
  simp only[List.map_cons,Y7,this,if_false,List.cons_append,ih h.2]
theorem Sd{cs:List Code}{k:Nat}{c:Code}(hc:cs[k]?=some c)(h:c.name∉(cs.take k).map (·.name)):Y7 (KL cs k) (.s c.name) (.b true)=KL cs (k+1):=by
 unfold KL
 rw[ce _ _ h,Pv hc,List.map_append]
 rfl
def DT(cs:List Code):Nat→List Bool
 |0=>List.replicate cs.length false
 |k+1=>if k=0 then DT cs k else match cs[k]? with
  |some c=>(DT cs k).set c.parent.toNat true
  |none=>DT cs k
theorem AF(cs:List Code):∀k,(DT cs k).length=cs.length
 |0=>by simp[DT]
 |k+1=>by
  unfold DT
  split
  ·exact AF cs k
  ·split
   ·rw[List.length_set];exact AF cs k
   ·exact AF cs k
theorem Se{cs:List Code}{k:Nat}(hk:k=0):DT cs (k+1)=DT cs k:=by simp[DT,hk]
theorem Li{cs:List Code}{k:Nat}{c:Code}(hk:0<k)(hc:cs[k]?=some c):DT cs (k+1)=(DT cs k).set c.parent.toNat true:=by
 have:¬k=0:=by omega
 rw[DT,if_neg this,hc]
theorem Lj:∀(cs pre:List Code),scan pre cs=none→∀(i:Nat) c,cs[i]?=some c→FG (pre.length+i) c.parent=false
 |[],pre,_,i,c,hc=>by simp at hc
 |a::r,pre,h,i,c,hc=>by
  simp only[scan]at h
  split at h
  ·cases h
  ·split at h
   ·cases h
   ·split at h
    ·cases h
    ·rename_i h3
     cases i with
     |zero=>simp at hc;subst hc;simpa using h3
     |succ i =>
      have:=Lj r (pre++[a]) h i c (by simpa using hc)
      rw[List.length_append,List.length_singleton]at this
      rw[show pre.length+(i+1)=pre.length+1+i by omega]
      exact this
theorem Fo{cs:List Code}(h:scan [] cs=none):Good cs:=by
 refine⟨fun i c hc hi=>?_,fun c hc=>?_⟩
 ·have:=Lj cs [] h i c hc
  simp[FG,Nat.ne_of_gt hi]at this
  omega
 ·have:=Lj cs [] h 0 c hc
  simpa [FG]using this
theorem Vx{nm:List UInt8}{cs:List Code}(h:D6 nm=true)(h1:¬(cs.length:Int)=0)(h2:¬(60:Int)<cs.length)(h3:scan [] cs=none)(h4:lv (-1) (s5 cs)=false):5=chk nm cs:=by
 simpa using Zp h h1 h2 h3 h4
theorem Zq{nm:List UInt8}{cs:List Code}(h:D6 nm=true)(h1:¬(cs.length:Int)=0)(h2:¬(60:Int)<cs.length)(h3:scan [] cs=none)(h4:lv (-1) (s5 cs)=true):0=chk nm cs:=by
 simpa using Zp h h1 h2 h3 h4
theorem Zr{cs:List Code}(hg:Good cs):∀(k j:Nat),k≤cs.length→j<cs.length→∃b,(DT cs k)[j]?=some b∧(b=true↔∃(i:Nat) (c:Code),0<i∧i<k∧cs[i]?=some c∧c.parent=j)
 |0,j,_,hj=>⟨false,by simp[DT,hj],by simp⟩
 |k+1,j,hk,hj=>by
  obtain⟨b,hb,ih⟩:=Zr hg k j (by omega) hj
  by_cases h0:k=0
  ·subst h0
   refine⟨b,by rw[Se rfl,hb],ih.trans ⟨?_,?_⟩⟩
   ·rintro ⟨i,c,h1,h2,_⟩;omega
   ·rintro ⟨i,c,h1,h2,_⟩;omega
  ·have hc:cs[k]?=some cs[k]:=List.getElem?_eq_getElem (by omega)
   obtain⟨h1,h2⟩:=hg.before k _ hc (by omega)
   by_cases hp:(cs[k].parent).toNat=j
   ·refine⟨true,?_,fun _=>⟨k,_,by omega,by omega,hc,by omega⟩,fun _=>rfl⟩
    rw[Li (by omega) hc,List.getElem?_set,if_pos hp,if_pos (by rw[AF];omega)]
   ·refine⟨b,?_,ih.trans ⟨?_,?_⟩⟩
    ·rw[Li (by omega) hc,List.getElem?_set,if_neg hp,hb]
    ·rintro ⟨i,c,g1,g2,g3,g4⟩;exact⟨i,c,g1,by omega,g3,g4⟩
    ·rintro ⟨i,c,g1,g2,g3,g4⟩
     refine⟨i,c,g1,?_,g3,g4⟩
     rcases Nat.lt_or_ge i k with h|h
     ·exact h
     ·have:i=k:=by omega
      subst this
      rw[hc]at g3
      cases g3
      omega
theorem Lk{cs:List Code}(hg:Good cs){j:Nat}{x:Bool}(h:(DT cs cs.length)[j]?=some x):W5 cs j=!x:=by
 have hj:j<cs.length:=by rw[←AF cs cs.length];exact(List.getElem?_eq_some_iff.1 h).1
 obtain⟨b,hb,qW⟩:=Zr hg _ j (Nat.le_refl _) hj
 rw[hb]at h
 cases h
 cases hx:W5 cs j with
 |true =>
  cases x with
  |false=>rfl
  |true =>
   obtain⟨i,c,_,_,h3,h4⟩:=qW.1 rfl
   have:=List.all_eq_true.1 hx c (List.mem_of_getElem? h3)
   simp[h4]at this
 |false =>
  cases x with
  |true=>rfl
  |false =>
   exfalso
   obtain⟨c,hc,he⟩:=List.all_eq_false.1 hx
   obtain⟨i,hi,rfl⟩:=List.getElem_of_mem hc
   have he:cs[i].parent=j:=by simpa using he
   have:(false=true):=qW.2 ⟨i,_,by
    rcases Nat.eq_zero_or_pos i with e|e
    ·subst e
     have:=hg.root _ (List.getElem?_eq_getElem hi)
     omega
    ·exact e,hi,List.getElem?_eq_getElem hi,he⟩
   cases this
theorem CM{cs:List Code}{k d:Nat}(h:(N8 cs)[k]?=some d):(s5 cs)[k]?=some (W5 cs k,d):=by
 have hk:k<cs.length:=by rw[←H5 cs];exact(List.getElem?_eq_some_iff.1 h).1
 simp[s5,hk,h]
theorem Sf(cs:List Code):(s5 cs).length=cs.length:=by simp[s5]
def EJ(cs:List Code)(k:Nat)(l:Int):Prop:=k≤cs.length∧lv (-1) (s5 cs)=lv l ((s5 cs).drop k)∧-1≤l
theorem EJ.skip{cs:List Code}{k d:Nat}{l:Int}(h:EJ cs k l)(hd:(N8 cs)[k]?=some d)(hl:W5 cs k=false):EJ cs (k+1) l:=by
 have hk:k<cs.length:=by rw[←H5 cs];exact(List.getElem?_eq_some_iff.1 hd).1
 refine⟨hk,?_,h.2.2⟩
 rw[h.2.1,BE (CM hd),hl]
 simp[lv]
theorem EJ.next{cs:List Code}{k d:Nat}{l:Int}(h:EJ cs k l)(hd:(N8 cs)[k]?=some d)(hl:W5 cs k=true)(h2:¬(0≤l∧(d:Int)≠l)):EJ cs (k+1) d:=by
 have hk:k<cs.length:=by rw[←H5 cs];exact(List.getElem?_eq_some_iff.1 hd).1
 refine⟨hk,?_,by omega⟩
 rw[h.2.1,BE (CM hd),hl]
 simp only[lv,if_true,if_neg h2]
theorem EJ.bad{cs:List Code}{k d:Nat}{l:Int}(h:EJ cs k l)(hd:(N8 cs)[k]?=some d)(hl:W5 cs k=true)(h2:0≤l∧(d:Int)≠l):lv (-1) (s5 cs)=false:=by
 rw[h.2.1,BE (CM hd),hl]
 simp only[lv,if_true,if_pos h2]
theorem EJ.done{cs:List Code}{k:Nat}{l:Int}(h:EJ cs k l)(hk:¬(k:Int)<cs.length):lv (-1) (s5 cs)=true:=by
 have e:k=(s5 cs).length:=by rw[Sf];have:=h.1;omega
 rw[h.2.1,e,List.drop_length];rfl
abbrev bA(b:Bool):List AV:=[.b b]
theorem EZ(nm:List UInt8)(cs:List Code)(lX:cs.length≤9223372036854775807):A3 Tryz.prog 153 [lA nm cs] (.i (chk nm cs)):=by
 refine B6 Tryz.func153 102 fun lW E h0=>?_
 repeat'((first|refine A1 (CZ _) ?_|refine JI ⟨[(1,.ref 0 0),(2,.i 0),(3,.mp 1),(4,.row 2 0 cs.length)],3,[(0,some (.box [.str nm,.sl 2 (cs.map cA)])),(1,some (.map [])),(2,some (.row 4 1 0 (List.replicate cs.length [.b false])))]⟩ ?_ ?_ |refine S2 ?_|(refine T6 ?_ ?_<;>intro h<;>try exact V1 h)|intro el lU lV|intro el lU|exact T4|refine T5 ?_ ?_|intro ex)<;>try conv=>whnf)
 case refine_1=>exact A0 rfl (congrArg AV.i (Sb h))
 case refine_2.refine_1=>exact A0 rfl (congrArg AV.i (Vw (by assumption) h))
 case refine_2.refine_2.refine_1=>exact A0 rfl (congrArg AV.i (Sc (by assumption) h))
 case refine_2.refine_2.refine_2.refine_2 =>
  rename_i hn hz
  have hl:=h
  clear h
  have wC:cs.length≤1000000:=by omega
  refine B0 (ι:=Nat) (fun k=>⟨[(1,.ref 0 0),(3,.mp 1),(4,.row 2 0 cs.length),(31,.sl 2 (cs.map cA)),(32,.i cs.length),(33,.i k)],3,[(0,some (.box [.str nm,.sl 2 (cs.map cA)])),(1,some (.map (KL cs k))),(2,some (.row 4 1 0 ((DT cs k).map bA)))]⟩) (fun k=>u7 cs k) (fun k=>cs.length-k) 0 ⟨Nat.zero_le _,by simp⟩ (A9 h0 rfl ⟨rfl,rfl,rfl,rfl,rfl,rfl,trivial⟩ ⟨rfl,rfl,⟨0,by simp[DT]⟩,trivial⟩ rfl rfl rfl) (fun k hI=>?_)
  repeat'((first|refine A1 (CZ _) ?_|refine A1 (Br _ _ (Fo (hI.done (by assumption))).before wC) ?_|(refine I4 ?_ ?_;exact XS _ _)|refine RE (cc _ _ _) ?_|(refine Az ?_ (fun x hx=>?_);(rw[AF];omega)) |refine S2 ?_|(refine T6 ?_ ?_<;>intro h<;>try exact V1 h)|intro el lU lV|intro el lU|exact T4|refine T5 ?_ ?_|intro ex)<;>try conv=>whnf)
  all_goals first
   |exact A0 rfl (congrArg AV.i (Da hn hz hl (hI.name lU (by assumption))))
   |exact A0 rfl (congrArg AV.i (Da hn hz hl (hI.dup lU (by assumption) (by assumption))))
   |exact A0 rfl (congrArg AV.i (Da hn hz hl (hI.bad lU (by assumption) (by assumption) (by unfold FG;split<;>simp<;>omega))))
   |exact⟨k+1,hI.step lU (by assumption) (by assumption) (by unfold FG;split<;>simp<;>omega),by omega,A9 h0 rfl ⟨rfl,rfl,rfl,rfl,rfl,rfl,trivial⟩ ⟨rfl,congrArg C6.map (Sd lU (by assumption)).symm,⟨0,congrArg (fun l=>C6.row 4 1 0 (l.map bA)) (Se (by omega))⟩,trivial⟩ rfl rfl rfl⟩
   |exact⟨k+1,hI.step lU (by assumption) (by assumption) (by unfold FG;split<;>simp<;>omega),by omega,A9 h0 rfl ⟨rfl,rfl,rfl,rfl,rfl,rfl,trivial⟩ ⟨rfl,congrArg C6.map (Sd lU (by assumption)).symm,⟨0,congrArg (C6.row 4 1 0) ((congrArg (List.map bA) (Li (by omega) lU)).trans List.map_set)⟩,trivial⟩ rfl rfl rfl⟩
   |skip
  have hs:=hI.done h
  have hg:=Fo hs
  have hk:k=cs.length:=by have:=hI.1;omega
  subst hk
  refine B0 (ι:=Nat×Int) (fun x=>⟨[(4,.row 2 0 cs.length),(7,.i x.2),(82,.sl 1 ((N8 cs).map iA)),(83,.i (N8 cs).length),(84,.i x.1)],3,[(2,some (.row 4 1 0 ((DT cs cs.length).map bA)))]⟩) (fun x=>EJ cs x.1 x.2) (fun x=>cs.length-x.1) (0,-1) ⟨Nat.zero_le _,by simp,by simp⟩ (A9 h0 rfl ⟨rfl,rfl,rfl,rfl,rfl,trivial⟩ ⟨⟨0,rfl⟩,trivial⟩ rfl rfl rfl) (fun x hJ=>?_)
  obtain⟨j,l⟩:=x
  have rh:=hJ.1
  have yE:=hJ.2.2
  have oa:=H5 cs
  simp only at hJ rh yE
  repeat'((first|(refine Az ?_ (fun x hx=>?_);(rw[AF];omega)) |refine S2 ?_|(refine T6 ?_ ?_<;>intro h<;>try exact V1 h)|intro el lU lV|intro el lU|exact T4|refine T5 ?_ ?_|intro ex)<;>try conv=>whnf)
  all_goals first
   |exact⟨(j+1,l),hJ.skip lU (by rw[Lk (j:=j) hg hx,h];rfl),by simp only;omega,A9 h0 rfl ⟨rfl,rfl,rfl,rfl,rfl,trivial⟩ ⟨⟨0,rfl⟩,trivial⟩ rfl rfl rfl⟩
   |exact A0 rfl (congrArg AV.i (Vx hn hz hl hs (hJ.bad lU (by rw[Lk (j:=j) hg hx];simp[*]) ⟨by assumption,by assumption⟩)))
   |exact⟨(j+1,(el:Int)),hJ.next lU (by rw[Lk (j:=j) hg hx];simp[*]) (by simp only at *;omega),by simp only;omega,A9 h0 rfl ⟨rfl,rfl,rfl,rfl,rfl,trivial⟩ ⟨⟨0,rfl⟩,trivial⟩ rfl rfl rfl⟩
   |exact A0 rfl (congrArg AV.i (Zq hn hz hl hs (hJ.done (by simp only at *;omega))))
 all_goals first
  |exact A9 h0 rfl ⟨rfl,rfl,rfl,rfl,trivial⟩ ⟨rfl,rfl,⟨0,rfl⟩,trivial⟩ rfl rfl rfl
  |exact B5 (BC 1 2 h0 rfl rfl) (A9 h0 rfl ⟨rfl,rfl,rfl,rfl,trivial⟩ ⟨rfl,rfl,⟨0,rfl⟩,trivial⟩ rfl rfl rfl)
theorem cg{cs:List Code}{i k:Nat}{a b:Code}(hi:cs[i]?=some a)(hI:∀c∈cs.take k,c.name≠a.name)(hb:cs[k]?=some b)(h:¬b.name=a.name):∀c∈cs.take (k+1),c.name≠a.name:=Sa hI hb h
theorem fa{cs:List Code}{i k:Nat}{a b:Code}(tj:k<i)(hb:cs[k]?=some b)(h:b.name=a.name):a.name∈(cs.take i).map (·.name) :=
 List.mem_map.2 ⟨b,List.mem_of_getElem? (i:=k) (by rw[List.getElem?_take_of_lt tj];exact hb),h⟩
theorem Zs{cs:List Code}{i:Nat}{a:Code}(hI:∀c∈cs.take i,c.name≠a.name):a.name∉(cs.take i).map (·.name):=by
 intro h
 obtain⟨c,hc,he⟩:=List.mem_map.1 h
 exact hI c hc he
theorem Bs(nm:List UInt8)(cs:List Code)(lX:cs.length≤9223372036854775807):A3 Tryz.prog 77 [lA nm cs] (.i (chk nm cs)):=by
 refine B6 Tryz.func77 100 fun lW E h0=>?_
 repeat'((first|refine A1 (AE _) ?_ |refine S2 ?_|(refine T6 ?_ ?_<;>intro h<;>try exact V1 h)|intro el lU lV|intro el lU|exact T4|refine T5 ?_ ?_|intro ex)<;>try conv=>whnf)
 case refine_1=>exact A0 rfl (congrArg AV.i (Sb h))
 case refine_2.refine_1=>exact A0 rfl (congrArg AV.i (Vw (by assumption) h))
 case refine_2.refine_2.refine_1=>exact A0 rfl (congrArg AV.i (Sc (by assumption) h))
 rename_i hn hz
 have hl:=h
 clear h
 refine B0 (ι:=Nat) (fun k=>⟨[(1,.ref 0 0),(3,.i k)],1,[(0,some (.box [.str nm,.sl 2 (cs.map cA)]))]⟩) (fun k=>u7 cs k) (fun k=>cs.length-k) 0 ⟨Nat.zero_le _,by simp⟩ (A6 h0) (fun k hI=>?_)
 repeat'((first|refine A1 (AE _) ?_ |refine S2 ?_|(refine T6 ?_ ?_<;>intro h<;>try exact V1 h)|intro el lU lV|intro el lU|exact T4|refine T5 ?_ ?_|intro ex)<;>try conv=>whnf)
 case refine_2.refine_2.refine_2.refine_1.refine_1=>exact A0 rfl (congrArg AV.i (Da hn hz hl (hI.name lU h)))
 ·rename_i hk
  rename Code=>c
  rename cs[k]?=_=>hc
  have oV:=h
  clear h
  refine B0 (ι:=Nat) (fun j=>⟨[(1,.ref 0 0),(3,.i k),(4,.i j)],1,[(0,some (.box [.str nm,.sl 2 (cs.map cA)]))]⟩) (fun j=>j≤k∧∀a∈cs.take j,a.name≠c.name) (fun j=>k-j) 0 ⟨Nat.zero_le _,by simp⟩ (A6 h0) (fun j hJ=>?_)
  obtain⟨hj,hJ⟩:=hJ
  repeat'((first|(refine B3 ?_ ?_;kernel_rfl) |refine S2 ?_|(refine T6 ?_ ?_<;>intro h<;>try exact V1 h)|intro el lU lV|intro el lU|exact T4|refine T5 ?_ ?_|intro ex)<;>try conv=>whnf)
  all_goals first
   |exact A0 rfl (congrArg AV.i (Da hn hz hl (hI.dup hc oV (fa (by omega) lU h))))
   |exact⟨j+1,⟨by omega,cg hc hJ lU h⟩,by omega,A6 h0⟩
   |(have hjk:j=k:=by omega
     subst hjk
     first
      |exact⟨j+1,hI.step hc oV (Zs hJ) (by unfold FG;split<;>simp<;>omega),by omega,A6 h0⟩
      |exact A0 rfl (congrArg AV.i (Da hn hz hl (hI.bad hc oV (Zs hJ) (by unfold FG;split<;>simp<;>omega)))))
 ·have hs:=hI.done h
  have hg:=Fo hs
  have oa:=H5 cs
  refine B0 (ι:=Nat×Int) (fun x=>⟨[(1,.ref 0 0),(6,.i x.2),(7,.i x.1)],1,[(0,some (.box [.str nm,.sl 2 (cs.map cA)]))]⟩) (fun x=>EJ cs x.1 x.2) (fun x=>cs.length-x.1) (0,-1) ⟨Nat.zero_le _,by simp,by simp⟩ (A6 h0) (fun x hJ=>?_)
  obtain⟨j,l⟩:=x
  have rh:=hJ.1
  have yE:=hJ.2.2
  simp only at hJ rh yE
  repeat'((first|refine A1 (Zo _ _ _ lX) ?_|refine A1 (BU _ _ _ _ hg lX (List.getElem?_eq_getElem (i:=j) (by omega))) ?_ |refine S2 ?_|(refine T6 ?_ ?_<;>intro h<;>try exact V1 h)|intro el lU lV|intro el lU|exact T4|refine T5 ?_ ?_|intro ex)<;>try conv=>whnf)
  all_goals first
   |exact⟨(j+1,l),hJ.skip (List.getElem?_eq_getElem (by simp only at *;omega)) h,by simp only at *;omega,A6 h0⟩
   |exact A0 rfl (congrArg AV.i (Vx hn hz hl hs (hJ.bad (List.getElem?_eq_getElem (by simp only at *;omega)) (by assumption) ⟨by assumption,by assumption⟩)))
   |exact⟨(j+1,((N8 cs)[j]'(by simp only at *;omega):Int)),hJ.next (List.getElem?_eq_getElem (by simp only at *;omega)) (by assumption) (by simp only at *;omega),by simp only at *;omega,A6 h0⟩
   |exact A0 rfl (congrArg AV.i (Zq hn hz hl hs (hJ.done (by simp only at *;omega))))
theorem I1{nm:List UInt8}{cs:List Code}(h:chk nm cs=0):Good cs∧0<cs.length∧cs.length≤60:=by
 unfold chk at h
 split at h
 ·cases h
 ·split at h
  ·cases h
  ·split at h
   ·cases h
   ·rename_i h1 h2 h3
    cases hs:scan [] cs with
    |some e =>
     rw[hs]at h
     simp only at h
     subst h
     exfalso
     have:∀(cs pre:List Code) e,scan pre cs=some e→e=3∨e=10∨e=6:=by
      intro cs
      induction cs with
      |nil=>intro pre e h;cases h
      |cons a r ih =>
       intro pre e h
       simp only[scan]at h
       split at h
       ·cases h;exact .inl rfl
       ·split at h
        ·cases h;exact .inr (.inl rfl)
        ·split at h
         ·cases h;exact .inr (.inr rfl)
         ·exact ih _ _ h
     have:=this _ _ _ hs
     omega
    |none=>exact⟨Fo hs,by omega,by omega⟩
theorem BF{nm:List UInt8}{cs:List Code}(h:chk nm cs=0):cs.length≤1000000:=by have:=(I1 h).2.2;omega
def Bg(ds:List Nat):Nat:=ds.foldl max 0
theorem Sg{ds:List Nat}{k x:Nat}(h:ds[k]?=some x):(max (Bg (ds.take k):Int) x)=(Bg (ds.take (k+1)):Nat):=by
 rw[List.take_add_one,h]
 unfold Bg
 rw[List.foldl_append]
 simp only[Option.toList_some,List.foldl_cons,List.foldl_nil]
 omega
theorem ch(ds:List Nat)(hne:0<ds.length)(lX:ds.length≤1000000):A3 Tryz.prog 225 [.sl 1 (ds.map iA)] (.i (Bg ds)):=by
 refine B6 Tryz.func225 25 fun lW E h0=>?_
 repeat'((first|refine S2 ?_|(refine T6 ?_ ?_<;>intro h<;>try exact V1 h)|intro el lU lV|intro el lU|exact T4|refine T5 ?_ ?_|intro ex)<;>try conv=>whnf)
 refine B0 (ι:=Nat) (fun k=>⟨[(0,.sl 1 (ds.map iA)),(3,.i (Bg (ds.take k))),(4,.i k)],0,[]⟩) (fun k=>k≤ds.length) (fun k=>ds.length-k) 1 hne (A9 h0 rfl ⟨rfl,congrArg (fun z:Int=>some (AV.i z)) (by
  have:=Sg (k:=0) lU
  rw[←this]
  simp[Bg]),rfl,trivial⟩ trivial rfl rfl rfl) (fun k hI=>?_)
 repeat'((first|refine S2 ?_|(refine T6 ?_ ?_<;>intro h<;>try exact V1 h)|intro el lU lV|intro el lU|exact T4|refine T5 ?_ ?_|intro ex)<;>try conv=>whnf)
 all_goals first
  |exact⟨k+1,by omega,by omega,A9 h0 rfl ⟨rfl,congrArg (fun z:Int=>some (AV.i z)) (Sg lU),rfl,trivial⟩ trivial rfl rfl rfl⟩
  |(refine A0 rfl (congrArg (fun z:Nat=>AV.i (z:Int)) ?_)
    rw[show k=ds.length by omega,List.take_length])
def hasB(nm:List UInt8)(cs:List Code)(code:Int):Bool:=decide (0≤code) && decide (code<cs.length) && decide (chk nm cs=0)
theorem Si(nm:List UInt8)(cs:List Code)(code:Int)(lX:cs.length≤9223372036854775807):A3 Tryz.prog 227 [lA nm cs,.i code] (.b (hasB nm cs code)):=by
 refine B6 Tryz.func227 19 fun lW E h0=>?_
 repeat'((first|refine A1 (EZ _ _ lX) ?_ |refine S2 ?_|(refine T6 ?_ ?_<;>intro h<;>try exact V1 h)|intro el lU lV|intro el lU|exact T4|refine T5 ?_ ?_|intro ex)<;>try conv=>whnf)
 all_goals first
  |exact A0 rfl (congrArg AV.b (by simp[hasB, *]))
def C4(nm:List UInt8)(cs:List Code):Int:=if chk nm cs=0 then (Bg (N8 cs):Int)+1 else -1
theorem Ll{cs:List Code}(hb:FF cs):Bg (N8 cs)≤cs.length:=by
 have:∀(ds:List Nat) (m a:Nat),(∀d∈ds,d≤m)→a≤m→ds.foldl max a≤m:=by
  intro ds
  induction ds with
  |nil=>intro m a _ h;exact h
  |cons d r ih=>intro m a h ha;exact ih m _ (fun x hx=>h x (by simp[hx])) (by have:=h d (by simp);omega)
 refine this _ _ _ (fun d hd=>?_) (Nat.zero_le _)
 obtain⟨i,hi,rfl⟩:=List.getElem_of_mem hd
 have h1:=KK hb i _ (List.getElem?_eq_getElem hi)
 have h2:=H5 cs
 omega
theorem Du(nm:List UInt8)(cs:List Code)(lX:cs.length≤9223372036854775807):A3 Tryz.prog 183 [lA nm cs] (.i (C4 nm cs)):=by
 have oa:=H5 cs
 have tU:=fun h=>And.intro (Ll (cs:=cs) (I1 (nm:=nm) h).1.before) (I1 (nm:=nm) (cs:=cs) h).2.2
 refine B6 Tryz.func183 10 fun lW E h0=>?_
 repeat'((first|refine A1 (EZ _ _ lX) ?_|refine A1 (Br _ _ (I1 (by simpa using h)).1.before (BF (nm:=nm) (by simpa using h))) ?_|refine A1 (ch _ (by have:=I1 (nm:=nm) (cs:=cs) (by simpa using h);omega) (by have:=BF (nm:=nm) (cs:=cs) (by simpa using h);omega)) ?_|(refine I4 ?_ ?_;(have:=tU (by simpa using h);omega)) |refine S2 ?_|(refine T6 ?_ ?_<;>intro h<;>try exact V1 h)|intro el lU lV|intro el lU|exact T4|refine T5 ?_ ?_|intro ex)<;>try conv=>whnf)
 all_goals first
  |exact A0 rfl (congrArg AV.i (by simp[C4,h]))
  |exact A0 rfl (congrArg AV.i (by have h:chk nm cs=0:=by simpa using h
                                   simp[C4,h]))
theorem eZ{nm:List UInt8}{cs:List Code}{code:Int}(h:hasB nm cs code=true):cs.length≤1000000:=by
 simp only[hasB,Bool.and_eq_true,decide_eq_true_eq]at h
 exact BF h.2
def S7(nm:List UInt8)(cs:List Code)(code:Int):Int:=if hasB nm cs code=true then ((N8 cs).getD code.toNat 0:Nat)else -1
theorem CN{nm:List UInt8}{cs:List Code}{code:Int}(h:hasB nm cs code=true):Good cs∧0≤code∧code<cs.length∧cs.length≤60∧chk nm cs=0:=by
 simp only[hasB,Bool.and_eq_true,decide_eq_true_eq]at h
 exact⟨(I1 h.2).1,h.1.1,h.1.2,(I1 h.2).2.2,h.2⟩
def par(cs:List Code)(code:Nat):Nat:=((cs[code]?).map (·.parent.toNat)).getD 0
def Pw(cs:List Code)(code:Nat):Nat→Nat
 |0=>code
 |s+1=>Pw cs (par cs code) s
def dep(cs:List Code)(code:Nat):Nat:=(N8 cs).getD code 0
def L2(nm:List UInt8)(cs:List Code)(code level:Int):Int :=
 if hasB nm cs code=true∧0≤level∧level≤dep cs code.toNat then (Pw cs code.toNat (dep cs code.toNat-level.toNat):Int)else -1
theorem Ca{cs:List Code}{j d:Nat}(h:(N8 cs)[j]?=some d):dep cs j=d:=by rw[dep,List.getD_eq_getElem?_getD,h];rfl
theorem Bt{cs:List Code}{j:Nat}(h:j<cs.length):(N8 cs)[j]?=some (dep cs j):=by
 have h2:j<(N8 cs).length:=by rw[H5];exact h
 rw[dep,List.getD_eq_getElem?_getD,List.getElem?_eq_getElem h2];rfl
theorem Oc{cs:List Code}(hb:FF cs){j:Nat}{c:Code}(hc:cs[j]?=some c)(hj:0<j):dep cs j=dep cs (par cs j)+1∧par cs j<j∧(par cs j:Int)=c.parent:=by
 obtain⟨h1,h2⟩:=hb j c hc hj
 have hp:par cs j=c.parent.toNat:=by rw[par,hc];rfl
 have h3:=CK hb hc
 rw[if_neg (by omega)]at h3
 have:=Ca h3
 rw[hp]
 exact⟨this,by omega,by omega⟩
theorem Sj{cs:List Code}(hb:FF cs){c:Code}(hc:cs[0]?=some c):dep cs 0=0:=by
 have h3:=CK hb hc
 rw[if_pos rfl]at h3
 exact Ca h3
theorem KM(nm:List UInt8)(cs:List Code)(code level:Int)(lX:cs.length≤9223372036854775807):A3 Tryz.prog 199 [lA nm cs,.i code,.i level] (.i (L2 nm cs code level)):=by
 have oa:=H5 cs
 refine B6 Tryz.func199 36 fun lW E h0=>?_
 repeat'((first|refine A1 (Si _ _ _ lX) ?_|refine A1 (Br _ _ (CN (by assumption)).1.before (eZ (by assumption))) ?_|(refine o8 ?_ ?_ (fun el lU=>?_);(have:=CN (by assumption);omega);(have:=CN (by assumption);omega)) |refine S2 ?_|(refine T6 ?_ ?_<;>intro h<;>try exact V1 h)|intro el lU lV|intro el lU|exact T4|refine T5 ?_ ?_|intro ex)<;>try conv=>whnf)
 case refine_2=>exact A0 rfl (congrArg AV.i (by rw[L2,if_neg (fun hx=>by rw[h]at hx;cases hx.1)]))
 case refine_1.refine_1=>exact A0 rfl (congrArg AV.i (by rw[L2,if_neg (fun hx=>by omega)]))
 rename_i hh
 obtain⟨hg,pH,yt,hn60,_⟩:=CN hh
 have hb:=hg.before
 have hd0:dep cs code.toNat=el:=Ca lU
 have py:=h
 clear h
 have pm:L2 nm cs code level=if level≤dep cs code.toNat then (Pw cs code.toNat (dep cs code.toNat-level.toNat):Int)else -1:=by
  unfold L2
  by_cases hx:level≤dep cs code.toNat
  ·rw[if_pos ⟨hh,by omega,hx⟩,if_pos hx]
  ·rw[if_neg (fun h=>hx h.2.2),if_neg hx]
 rw[pm]
 refine B0 (ι:=Nat) (fun c=>⟨[(1,.i c),(2,.i level),(3,.ref 0 0),(7,.i (dep cs c))],1,[(0,some (.box [.str nm,.sl 2 (cs.map cA)]))]⟩)
  (fun c=>c<cs.length∧((level≤dep cs code.toNat∧level≤dep cs c∧Pw cs code.toNat (dep cs code.toNat-level.toNat)=Pw cs c (dep cs c-level.toNat))∨(¬level≤dep cs code.toNat∧c=code.toNat))) (fun c=>c) code.toNat
  ⟨by omega,by by_cases hx:level≤dep cs code.toNat<;>simp[hx]⟩ (A9 h0 rfl ⟨congrArg (fun z=>some (AV.i z)) (Int.toNat_of_nonneg pH).symm,rfl,rfl,congrArg (fun z:Nat=>some (AV.i (z:Int))) hd0.symm,trivial⟩ ⟨rfl,trivial⟩ rfl rfl rfl) (fun c hI=>?_)
 obtain⟨ly,hI⟩:=hI
 have wy:=KK hb c _ (Bt ly)
 repeat'((first|refine S2 ?_|(refine T6 ?_ ?_<;>intro h<;>try exact V1 h)|intro el lU lV|intro el lU|exact T4|refine T5 ?_ ?_|intro ex)<;>try conv=>whnf)
 ·refine A0 rfl (congrArg AV.i ?_)
  rcases hI with ⟨h1,h2,h3⟩|⟨h1,h2⟩
  ·rw[if_pos h1,h3,show dep cs c-level.toNat=0 by omega];rfl
  ·subst h2;omega
 ·rename_i lY _
  rcases hI with ⟨h1,h2,h3⟩|⟨h1,h2⟩
  ·have tP:0<c:=by
    rcases Nat.eq_zero_or_pos c with e|e
    ·subst e;rw[Sj hb lU]at *;omega
    ·exact e
   obtain⟨e1,e2,e3⟩:=Oc hb lU tP
   have e4:dep cs c-level.toNat=(dep cs (par cs c)-level.toNat)+1:=by omega
   refine⟨par cs c,⟨by omega,.inl ⟨h1,by omega,by rw[h3,e4];rfl⟩⟩,e2,A9 h0 rfl ⟨congrArg (fun z:Int=>some (AV.i z)) e3.symm,rfl,rfl,congrArg (fun z:Int=>some (AV.i z)) (by omega),trivial⟩ ⟨rfl,trivial⟩ rfl rfl rfl⟩
  ·subst h2;omega
 ·refine A0 rfl (congrArg AV.i ?_)
  rcases hI with ⟨h1,h2,h3⟩|⟨h1,h2⟩
  ·omega
  ·rw[if_neg h1]
def u9(nm:List UInt8)(cs:List Code)(code lq:Int):Bool:=hasB nm cs code && hasB nm cs lq && decide (L2 nm cs code (dep cs lq.toNat)=lq)
theorem XT(nm:List UInt8)(cs:List Code)(code lq:Int)(lX:cs.length≤9223372036854775807):A3 Tryz.prog 242 [lA nm cs,.i code,.i lq] (.b (u9 nm cs code lq)):=by
 have oa:=H5 cs
 refine B6 Tryz.func242 27 fun lW E h0=>?_
 repeat'((first|refine A1 (Si _ _ _ lX) ?_|refine A1 (KM _ _ _ _ lX) ?_|refine A1 (Br _ _ (CN (by assumption)).1.before (eZ (by assumption))) ?_|(refine o8 ?_ ?_ (fun el lU=>?_);(have:=CN h;omega);(have:=CN h;omega))|(refine B3 ?_ ?_;kernel_rfl) |refine S2 ?_|(refine T6 ?_ ?_<;>intro h<;>try exact V1 h)|intro el lU lV|intro el lU|exact T4|refine T5 ?_ ?_|intro ex)<;>try conv=>whnf)
 all_goals first
  |(refine A0 rfl (congrArg AV.b ?_);(simp only[u9, *,Ca lU,Bool.true_and];done))
  |(refine A0 rfl (congrArg AV.b ?_);(simp only[u9, *,Bool.false_and,Bool.and_false,Bool.true_and];done))
def Fp(cs:List Code)(level:Int)(k:Nat):List Nat:=(List.range k).filter fun i=>decide ((dep cs i:Int)=level)
theorem NO(cs:List Code)(level:Int)(k:Nat):(Fp cs level k).length≤k:=by
 have:=List.length_filter_le (fun i=>decide ((dep cs i:Int)=level)) (List.range k)
 simpa [Fp]using this
theorem KN{cs:List Code}{level:Int}{k:Nat}(h:(dep cs k:Int)=level):Fp cs level (k+1)=Fp cs level k++[k]:=by
 simp[Fp,List.range_succ,List.filter_append,h]
theorem NP{cs:List Code}{level:Int}{k:Nat}(h:¬(dep cs k:Int)=level):Fp cs level (k+1)=Fp cs level k:=by
 simp[Fp,List.range_succ,List.filter_append,h]
def K3(nm:List UInt8)(cs:List Code)(level:Int):List Nat:=if chk nm cs=0 then Fp cs level cs.length else []
theorem Gp(nm:List UInt8)(cs:List Code)(level:Int)(lX:cs.length≤9223372036854775807):A3 Tryz.prog 108 [lA nm cs,.i level] (.sl 1 ((K3 nm cs level).map iA)):=by
 have oa:=H5 cs
 refine B6 Tryz.func108 28 fun lW E h0=>?_
 repeat'((first|refine A1 (EZ _ _ lX) ?_|refine A1 (Br _ _ (I1 (by simpa using h)).1.before (BF (nm:=nm) (by simpa using h))) ?_ |refine S2 ?_|(refine T6 ?_ ?_<;>intro h<;>try exact V1 h)|intro el lU lV|intro el lU|exact T4|refine T5 ?_ ?_|intro ex)<;>try conv=>whnf)
 case refine_1=>exact u4 (sz:=1) rfl (by rw[K3,if_neg h];rfl)
 have hc:chk nm cs=0:=by simpa using h
 have vw:=BF hc
 rw[K3,if_pos hc]
 refine B0 (ι:=Nat) (fun k=>⟨[(1,.i level),(5,.row 1 0 (Fp cs level k).length),(12,.sl 1 ((N8 cs).map iA)),(13,.i (N8 cs).length),(14,.i k)],2,[(1,some (.row 3 1 0 ((Fp cs level k).map iA)))]⟩) (fun k=>k≤cs.length) (fun k=>cs.length-k) 0 (Nat.zero_le _) (B5 (I9 (d:=5) (e:=3) (sz:=1) rfl) (A9 h0 rfl ⟨rfl,rfl,rfl,rfl,rfl,trivial⟩ ⟨⟨0,rfl⟩,trivial⟩ rfl rfl rfl)) (fun k hI=>?_)
 have rj:=NO cs level k
 repeat'((first|(refine I4 ?_ ?_;(intro rC pu u hu;cases pu with|head=>(cases hu with|head=>exact rfl|tail _ h=>cases h)|tail _ h=>cases h))|(refine I4 ?_ ?_;(constructor<;>(simp only[L9,K1,List.length_cons,List.length_nil];omega))) |refine S2 ?_|(refine T6 ?_ ?_<;>intro h<;>try exact V1 h)|intro el lU lV|intro el lU|exact T4|refine T5 ?_ ?_|intro ex)<;>try conv=>whnf)
 ·have hd:(dep cs k:Int)=level:=by rw[Ca lU];exact h
  refine⟨k+1,?_,?_,A9 h0 rfl ⟨rfl,congrArg (fun z=>some (AV.row 1 0 z)) ?_,rfl,rfl,rfl,trivial⟩ ⟨⟨0,congrArg (C6.row 3 1 0) ?_⟩,trivial⟩ rfl rfl rfl⟩
  ·omega
  ·omega
  ·rw[KN hd,List.length_append];rfl
  ·rw[KN hd,List.map_append];rfl
 ·have hd:¬(dep cs k:Int)=level:=by rw[Ca lU];exact h
  refine⟨k+1,?_,?_,A9 h0 rfl ⟨rfl,congrArg (fun z=>some (AV.row 1 0 z)) ?_,rfl,rfl,rfl,trivial⟩ ⟨⟨0,congrArg (C6.row 3 1 0) ?_⟩,trivial⟩ rfl rfl rfl⟩
  ·omega
  ·omega
  ·rw[NP hd]
  ·rw[NP hd]
 ·apply A0
  ·rfl
  ·rw[show cs.length=k by omega]
   rfl
end Go.Proofs.YtiphlhoclaogjaaGreatDoor
namespace Go.Proofs.YtiphlhoclaogjaaGreatDoor
open Go Go.Av
set_option maxRecDepth 100000
def ke(n:Int):Prop:=-9223372036854775808≤n∧n≤9223372036854775807
theorem Od{f:Nat}{l:List AV}(h:Sh Tryz.prog f 3 l):∃n,ke n∧l=[.i n]:=by
 obtain⟨n,h1,h2⟩:=Zg Tryz.underlying3 h
 exact⟨n,wf_i64 h1,h2⟩
theorem jC{a:AV}(h:AW Tryz.prog 22 a):∃l:List UInt8,l.length≤maxLen∧a=.sl 1 (l.map N9):=Zi Tryz.underlying22 Tryz.underlying5 (by kernel_rfl) h
end Go.Proofs.YtiphlhoclaogjaaGreatDoor
