/- Plain lists: the first error, the first place, and what was passed. Chapter 1: names, and what they are. Chapter 1: the levels of codes. Chapter 1: leaves and depths, by the reference. Chapter 1: the check of a list. Chapter 1: the check of a list, by the reference. Chapter 1: levels, ancestors, codes of a level. Chapter 1: ancestors. Chapter 1: what stands below, codes of a level, codes with a name. Chapter 1: the codes of a level, and the example. Code lists that came in. -/
import Derived.Test.YtjkbhaaobhgkdabGreatDoorRAvTy
import Derived.Test.YtjkbhaaobhgkdabGreatDoorRE3
set_option linter.unusedVariables false
set_option linter.unnecessarySimpa false
set_option linter.unusedSimpArgs false
set_option maxHeartbeats 64000000
namespace Go.Proofs.YtjkbhaaobhgkdabGreatDoor
open Go Go.Av
attribute [local irreducible] D0 B0 D2 C7 DQ D1 C8 St.le A3 B6
set_option maxRecDepth 100000
theorem G6{α:Type}{l:List α}{k:Nat}{x:α}(h:l[k]?=some x):l.drop k=x::l.drop (k+1):=by
 obtain⟨h1,h2⟩:=List.getElem?_eq_some_iff.1 h
 rw[List.drop_eq_getElem_cons h1,h2]
theorem I3{α:Type}{l:List α}{k:Nat}{x:α}(h:l[k]?=some x):l.take (k+1)=l.take k++[x]:=by
 rw[List.take_add_one,h];rfl
theorem W4{α:Type}{l:List α}{k:Nat}(h:¬(k:Int)<l.length):l.drop k=[]:=List.drop_eq_nil_of_le (by omega)
theorem DZ{α:Type}{l:List α}{k:Nat}(h:¬(k:Int)<l.length):l.take k=l:=List.take_of_length_le (by omega)
theorem D6{α:Type}{l:List α}{k:Nat}{x:α}(h:l[k]?=some x):k<l.length:=(List.getElem?_eq_some_iff.1 h).1
def E6{α:Type}(p:α→Bool):List α→Int→Int
 |[],_=>-1
 |x::r,k=>if p x=true then k else E6 p r (k+1)
theorem Bt{α:Type}(p:α→Bool):∀(l:List α) (k:Int),0≤k→decide (0≤E6 p l k)=l.any p
 |[],k,_=>by simp[E6]
 |x::r,k,h=>by
  unfold E6
  by_cases hp:p x=true
  ·rw[if_pos hp];simp[hp,h]
  ·rw[if_neg hp,Bt p r (k+1) (by omega)]
   simp[hp]
theorem KR{α:Type}(p:α→Bool):∀(l:List α) (k:Int),E6 p l k=-1∨(k≤E6 p l k∧E6 p l k<k+l.length)
 |[],k=>.inl rfl
 |x::r,k=>by
  unfold E6
  by_cases hp:p x=true
  ·rw[if_pos hp];right;simp;omega
  ·rw[if_neg hp]
   rcases KR p r (k+1)with h|h
   ·exact .inl h
   ·right;simp;omega
def E8{α:Type}(f:Nat→α→Int):Nat→List α→Int
 |_,[]=>0
 |i,x::r=>if f i x=0 then E8 f (i+1) r else f i x
def F1{α:Type}(f:Nat→α→Int)(l:List α)(k:Nat):Prop:=k≤l.length∧E8 f 0 l=E8 f k (l.drop k)∧∀(i:Nat) x,i<k→l[i]?=some x→f i x=0
theorem F1.zero{α:Type}(f:Nat→α→Int)(l:List α):F1 f l 0:=⟨Nat.zero_le _,rfl,fun i x h=>absurd h (Nat.not_lt_zero _)⟩
theorem F1.step{α:Type}{f:Nat→α→Int}{l:List α}{k:Nat}{x:α}(h:F1 f l k)(hx:l[k]?=some x)(h0:f k x=0):F1 f l (k+1):=by
 refine⟨D6 hx,?_,fun i y hi hy=>?_⟩
 ·rw[h.2.1,G6 hx,E8,if_pos h0]
 ·by_cases e:i=k
  ·subst e;rw[hx]at hy;cases hy;exact h0
  ·exact h.2.2 i y (by omega) hy
theorem F1.hit{α:Type}{f:Nat→α→Int}{l:List α}{k:Nat}{x:α}(h:F1 f l k)(hx:l[k]?=some x)(h0:¬f k x=0):f k x=E8 f 0 l:=by
 rw[h.2.1,G6 hx,E8,if_neg h0]
theorem F1.done{α:Type}{f:Nat→α→Int}{l:List α}{k:Nat}(h:F1 f l k)(hk:¬(k:Int)<l.length):E8 f 0 l=0:=by
 rw[h.2.1,W4 hk];rfl
theorem N5{α:Type}{f:Nat→α→Int}:∀{l:List α} {k:Nat},E8 f k l=0→∀(i:Nat) x,l[i]?=some x→f (k+i) x=0
 |[],k,_,i,x,h=>by simp at h
 |y::r,k,h,i,x,hx=>by
  unfold E8 at h
  split at h
  ·cases i with
   |zero=>simp at hx;subst hx;assumption
   |succ i =>
    have:=N5 h i x (by simpa using hx)
    rw[show k+(i+1)=k+1+i by omega];exact this
  ·exact absurd h (by assumption)
def R0{α:Type}(p:α→Bool)(l:List α)(k:Nat):Prop:=k≤l.length∧∀x∈l.take k,p x=false
theorem R0.zero{α:Type}(p:α→Bool)(l:List α):R0 p l 0:=⟨Nat.zero_le _,fun x hx=>by simp at hx⟩
theorem R0.step{α:Type}{p:α→Bool}{l:List α}{k:Nat}{x:α}(h:R0 p l k)(hx:l[k]?=some x)(h0:p x=false):R0 p l (k+1):=by
 refine⟨D6 hx,fun y hy=>?_⟩
 rw[I3 hx]at hy
 rcases List.mem_append.1 hy with hy|hy
 ·exact h.2 y hy
 ·simp at hy;subst hy;exact h0
theorem R0.hit{α:Type}{p:α→Bool}{l:List α}{k:Nat}{x:α}(h:R0 p l k)(hx:l[k]?=some x)(h0:p x=true):true=l.any p :=
 (List.any_eq_true.2 ⟨x,List.mem_of_getElem? hx,h0⟩).symm
theorem R0.done{α:Type}{p:α→Bool}{l:List α}{k:Nat}(h:R0 p l k)(hk:¬(k:Int)<l.length):false=l.any p:=by
 have:=h.2
 rw[DZ hk]at this
 exact(List.any_eq_false.2 (fun x hx=>by simp[this x hx])).symm
end Go.Proofs.YtjkbhaaobhgkdabGreatDoor
namespace Go.Proofs.YtjkbhaaobhgkdabGreatDoor
open Go Go.Av
attribute [local irreducible] D0 B0 D2 DQ D1 C8 St.le A3 B6
def Cm(c:UInt8):Bool:=decide (97≤c.toNat∧c.toNat≤122∨48≤c.toNat∧c.toNat≤57∨c.toNat=95)
def words:List (List UInt8):=[[97,108,108],[97,110,100],[101,118,101,110,116],[102,114,111,109],[109,105,115,115,105,110,103],[110,111,116],[111,110],[111,114],[116,111],[117,110,100,101,114],[119,104,101,114,101]]
def NV(l:List UInt8):Bool:=match l with|[]=>false|c::_=>decide (97≤c.toNat∧c.toNat≤122)
def D5(l:List UInt8):Bool:=decide (l.length≤16) && NV l && l.all Cm && !(decide (l∈words))
theorem LG{l:List UInt8}(h:(l.length:Int)<1):false=D5 l:=by
 have:l=[]:=List.eq_nil_of_length_eq_zero (by omega)
 subst this;rfl
theorem NW{l:List UInt8}(h:16<(l.length:Int)):false=D5 l:=by
 have:¬l.length≤16:=by omega
 simp[D5,this]
theorem NX{l:List UInt8}{el:UInt8}(nN:l[Int.toNat 0]?=some el)(h:(el.toNat:Int)<97∨122<(el.toNat:Int)):false=D5 l:=by
 cases l with
 |nil=>rfl
 |cons c r =>
  have:c=el:=by simpa using nN
  subst this
  have:¬(97≤c.toNat∧c.toNat≤122):=by omega
  simp[D5,NV];omega
theorem QC{l:List UInt8}{k:Nat}{el:UInt8}(nN:l[k]?=some el)(h:¬(97≤el.toNat∧el.toNat≤122∨48≤el.toNat∧el.toNat≤57∨el.toNat=95)):false=D5 l:=by
 have:l.all Cm=false:=by
  rw[List.all_eq_false]
  exact⟨el,List.mem_of_getElem? nN,by simp[Cm];omega⟩
 simp[D5,this]
theorem NY{l:List UInt8}(h:l∈words):false=D5 l:=by simp[D5,h]
theorem NZ{l:List UInt8}{a b:UInt8}{k:Nat}(h1:¬16<(l.length:Int))(h2:¬(a.toNat:Int)<97)(ha:l[Int.toNat 0]?=some a)(h3:¬122<(b.toNat:Int))(hb:l[Int.toNat 0]?=some b)(h4:∀c∈l.take k,Cm c=true)(h5:¬(k:Int)<l.length)(h6:l∉words):true=D5 l:=by
 rw[ha]at hb
 cases hb
 have e:l.take k=l:=List.take_of_length_le (by omega)
 rw[e]at h4
 have:NV l=true:=by
  cases l with
  |nil=>cases ha
  |cons c r=>cases ha;simp[NV];omega
 simp[D5,this,h6]
 exact⟨by omega,h4⟩
theorem WP{l:List UInt8}{k:Nat}{el:UInt8}(hI:∀c∈l.take k,Cm c=true)(nN:l[k]?=some el)(h:97≤el.toNat∧el.toNat≤122∨48≤el.toNat∧el.toNat≤57∨el.toNat=95):∀c∈l.take (k+1),Cm c=true:=by
 intro c hc
 rw[List.take_add_one,nN]at hc
 rcases List.mem_append.1 hc with hc|hc
 ·exact hI c hc
 ·simp at hc;subst hc;simpa [Cm]using h
theorem CP(l:List UInt8):A3 Tryz.prog 52 [.str l] (.b (D5 l)):=by
 refine C0 Tryz.func52 62 fun nQ E h0=>?_
 repeat'((first|refine S2 ?_|(refine T6 ?_ ?_<;>intro h<;>try exact V1 h)|intro el nN nP|intro el nN|exact T4|refine T5 ?_ ?_|intro ex)<;>try conv=>whnf)
 rotate_left
 ·refine B2 (ι:=Nat) (fun k=>⟨[(0,.str l),(24,.sl 1 (l.map fun b=>[.v (.int .u8 b.toNat)])),(25,.i l.length),(26,.i k)],0,[]⟩) (fun k=>∀c∈l.take k,Cm c=true) (fun k=>l.length-k) 0 (by simp) (A6 h0) (fun k hI=>?_)
  repeat'((first|refine S2 ?_|(refine T6 ?_ ?_<;>intro h<;>try exact V1 h)|intro el nN nP|intro el nN|exact T4|refine T5 ?_ ?_|intro ex)<;>try conv=>whnf)
  all_goals first
   |exact⟨k+1,WP hI nN (by omega),by omega,A6 h0⟩
   |(refine A0 rfl (congrArg AV.b ?_);first|exact QC nN (by omega)|exact NY (by subst h;decide)|exact NZ (by assumption) (by assumption) (by assumption) (by assumption) (by assumption) hI (by assumption) (by simp[words, *]))
 all_goals (refine A0 rfl (congrArg AV.b ?_);first|exact LG h|exact NW h|exact NX nN (by omega))
theorem BD(l:List UInt8):A3 Tryz.prog 74 [.str l] (.b (D5 l)):=by
 refine C0 Tryz.func74 70 fun nQ E h0=>?_
 repeat'((first|refine S2 ?_|(refine T6 ?_ ?_<;>intro h<;>try exact V1 h)|intro el nN nP|intro el nN|exact T4|refine T5 ?_ ?_|intro ex)<;>try conv=>whnf)
 rotate_left
 ·refine B2 (ι:=Nat) (fun k=>⟨[(0,.str l),(3,.i k)],0,[]⟩) (fun k=>∀c∈l.take k,Cm c=true) (fun k=>l.length-k) 0 (by simp) (A6 h0) (fun k hI=>?_)
  repeat'((first|refine S2 ?_|(refine T6 ?_ ?_<;>intro h<;>try exact V1 h)|intro el nN nP|intro el nN|exact T4|refine T5 ?_ ?_|intro ex)<;>try conv=>whnf)
  all_goals first
   |exact⟨k+1,WP hI nN (by omega),by omega,A6 h0⟩
   |(refine A0 rfl (congrArg AV.b ?_);first|exact QC nN (by omega)|exact NY (by subst h;decide)|exact NZ (by assumption) (by assumption) (by assumption) (by assumption) (by assumption) hI (by assumption) (by simp[words, *]))
 all_goals first
  |(refine A0 rfl (congrArg AV.b ?_);first|exact LG h|exact NW h|exact NX nN (by omega))
structure Code where
 name:List UInt8
 parent:Int
deriving DecidableEq
abbrev cA(c:Code):List AV:=[.str c.name,.i c.parent]
abbrev iA(d:Nat):List AV:=[.i (d:Int)]
abbrev lA(nm:List UInt8)(cs:List Code):AV:=.agg [.str nm,.sl 2 (cs.map cA)]
def o3:List Nat→List Code→List Nat
 |out,[]=>out
 |out,c::r=>o3 (out++[if out=[]then 0 else out.getD c.parent.toNat 0+1]) r
def N0(cs:List Code):List Nat:=o3 [] cs
theorem Fu:∀(cs:List Code) (out:List Nat),(o3 out cs).length=out.length+cs.length
 |[],out=>rfl
 |c::r,out=>by simp only[o3,Fu r];simp;omega
theorem G8(cs:List Code):(N0 cs).length=cs.length:=by simp[N0,Fu]
theorem FS:∀(cs:List Code) (out:List Nat) (j:Nat),j<out.length→(o3 out cs)[j]?=out[j]?
 |[],out,j,_=>rfl
 |c::r,out,j,h=>by
  simp only[o3]
  rw[FS r _ j (by simp;omega),List.getElem?_append_left h]
theorem Ig:∀(cs:List Code) (out:List Nat) (k:Nat) (c:Code),cs[k]?=some c→((out++[]=[]∧k=0)∨True) →
  (o3 out cs)[out.length+k]?=some (if out.length+k=0 then 0 else if c.parent.toNat<out.length+k then (o3 out cs).getD c.parent.toNat 0+1 else 1)
 |[],out,k,c,h,_=>by simp at h
 |a::r,out,0,c,h,_=>by
  simp at h
  subst h
  simp only[o3,Nat.add_zero]
  rw[FS _ _ _ (by simp)]
  simp only[List.getElem?_append_right (Nat.le_refl _),Nat.sub_self,List.getElem?_cons_zero]
  congr 1
  by_cases e:out=[]
  ·subst e;simp
  ·have hl:¬out.length=0:=by simpa using e
   rw[if_neg e,if_neg hl]
   by_cases hp:a.parent.toNat<out.length
   ·rw[if_pos hp,List.getD_eq_getElem?_getD,List.getD_eq_getElem?_getD,FS _ _ _ (by simp;omega),List.getElem?_append_left hp]
   ·rw[if_neg hp,List.getD_eq_getElem?_getD,List.getElem?_eq_none (by omega)]
    rfl
 |a::r,out,k+1,c,h,_=>by
  simp only[o3]
  have:=Ig r (out++[if out=[]then 0 else out.getD a.parent.toNat 0+1]) k c (by simpa using h) (.inr trivial)
  simp only[List.length_append,List.length_cons,List.length_nil]at this
  rw[show out.length+(k+1)=out.length+(0+1)+k by omega]
  exact this
def FT(cs:List Code):Prop:=∀(i:Nat) c,cs[i]?=some c→0<i→0≤c.parent∧c.parent<i
theorem Bu{cs:List Code}(h:FT cs){k:Nat}{c:Code}(hc:cs[k]?=some c):(N0 cs)[k]?=some (if k=0 then 0 else (N0 cs).getD c.parent.toNat 0+1):=by
 have h1:=Ig cs [] k c hc (.inr trivial)
 simp only[List.length_nil,Nat.zero_add]at h1
 unfold N0
 rw[h1]
 congr 1
 by_cases e:k=0
 ·simp[e]
 ·rw[if_neg e,if_neg e]
  have:=h k c hc (by omega)
  rw[if_pos (by omega)]
def Am(D:List Nat)(n k:Nat):List Nat:=D.take k++List.replicate (n-k) 0
theorem LH{D:List Nat}{n k:Nat}(hD:D.length=n)(hk:k≤n):(Am D n k).length=n:=by simp[Am,hD];omega
theorem Sk{D:List Nat}{n k i:Nat}(hD:D.length=n)(hk:k≤n)(hi:i<k):(Am D n k)[i]?=D[i]?:=by
 rw[Am,List.getElem?_append_left (by simp;omega),List.getElem?_take_of_lt hi]
theorem dY{D:List Nat}{n k:Nat}{d:Nat}(hD:D.length=n)(hk:k<n)(hd:D[k]?=some d):((Am D n k).map iA).set k (iA d)=(Am D n (k+1)).map iA:=by
 have e:n-k=(n-(k+1))+1:=by omega
 have h1:(D.take k).length=k:=by rw[List.length_take];omega
 rw[Am,e,List.replicate_succ,Am,List.take_add_one,hd]
 rw[List.map_append,List.map_cons,List.set_append_right _ _ (by rw[List.length_map,h1];exact Nat.le_refl _),List.length_map,h1,Nat.sub_self]
 simp
theorem aP(D:List Nat)(n:Nat):(Am D n 0).map iA=List.replicate n (iA 0):=by simp[Am]
theorem aQ{D:List Nat}{n:Nat}(hD:D.length=n):Am D n n=D:=by simp[Am,←hD]
theorem aR{D:List Nat}{n k:Nat}(hD:D.length=n)(hk:k<n)(hd:D[k]?=some 0):Am D n k=Am D n (k+1):=by
 have e:n-k=(n-(k+1))+1:=by omega
 rw[Am,e,List.replicate_succ,Am,List.take_add_one,hd]
 simp
theorem KT{cs:List Code}(h:FT cs):∀(j d:Nat),(N0 cs)[j]?=some d→d≤j:=by
 intro j
 induction j using Nat.strongRecOn with
 |_ j ih =>
  intro d hd
  have nR:j<cs.length:=by rw[←G8 cs];exact(List.getElem?_eq_some_iff.1 hd).1
  have hc:=List.getElem?_eq_getElem nR
  rw[Bu h hc]at hd
  by_cases e:j=0
  ·simp[e]at hd;omega
  ·rw[if_neg e]at hd
   obtain⟨h1,h2⟩:=h j _ hc (by omega)
   have hp:(cs[j].parent).toNat<j:=by omega
   have hp2:(cs[j].parent).toNat<(N0 cs).length:=by rw[G8];omega
   have:=ih _ hp _ (List.getElem?_eq_getElem hp2)
   rw[List.getD_eq_getElem?_getD,List.getElem?_eq_getElem hp2]at hd
   simp at hd
   omega
theorem Ba(nm:List UInt8)(cs:List Code)(hb:FT cs)(nO:cs.length≤1000000):A3 Tryz.prog 109 [lA nm cs] (.sl 1 ((N0 cs).map iA)):=by
 have hD:=G8 cs
 refine C0 Tryz.func109 31 fun nQ E h0=>?_
 repeat'((first|refine S2 ?_|(refine T6 ?_ ?_<;>intro h<;>try exact V1 h)|intro el nN nP|intro el nN|exact T4|refine T5 ?_ ?_|intro ex)<;>try conv=>whnf)
 refine B2 (ι:=Nat) (fun k=>⟨[(1,.ref 0 0),(3,.row 1 0 cs.length),(11,.sl 2 (cs.map cA)),(12,.i cs.length),(13,.i k)],2,[(0,some (.box [.str nm,.sl 2 (cs.map cA)])),(1,some (.row 3 1 0 ((Am (N0 cs) cs.length k).map iA)))]⟩) (fun k=>k≤cs.length) (fun k=>cs.length-k) 0 (Nat.zero_le _) (A8 h0 rfl ⟨rfl,rfl,rfl,rfl,rfl,trivial⟩ ⟨rfl,⟨0,by rw[aP];rfl⟩,trivial⟩ rfl rfl rfl) (fun k hI=>?_)
 repeat'((first|(refine J4 ?_ ?_;(have:=hb k el nN (by omega);omega))|(refine Aj ?_ (fun x hx=>?_);(rw[LH hD hI];have:=hb k el nN (by omega);omega))|(refine J4 ?_ ?_;(have h5:=hb k el nN (by omega);have h6:=KT hb el.parent.toNat x (by rw[←Sk hD hI (by omega)];exact hx);omega))|(refine Aj ?_ (fun y hy=>?_);(rw[LH hD hI];omega)) |refine S2 ?_|(refine T6 ?_ ?_<;>intro h<;>try exact V1 h)|intro el nN nP|intro el nN|exact T4|refine T5 ?_ ?_|intro ex)<;>try conv=>whnf)
 rotate_left
 ·refine⟨k+1,?_,?_,A8 h0 rfl ⟨rfl,rfl,rfl,rfl,rfl,trivial⟩ ⟨rfl,⟨0,?_⟩,trivial⟩ rfl rfl rfl⟩
  ·omega
  ·omega
  ·have rp:k=0:=by omega
   exact congrArg (fun l=>C9.row 3 1 0 (l.map iA)) (aR (k:=k) hD (by omega) (by rw[Bu hb nN,if_pos rp])).symm
 ·apply A0
  ·rfl
  ·have e:k=cs.length:=by omega
   subst e
   exact congrArg (fun l=>AV.sl 1 (l.map iA)) (aQ hD)
 ·rename_i _ z hz
  refine⟨k+1,?_,?_,A8 h0 rfl ⟨rfl,rfl,rfl,rfl,rfl,trivial⟩ ⟨rfl,⟨0,congrArg (C9.row 3 1 0) (dY hD ?_ ?_).symm⟩,trivial⟩ rfl rfl rfl⟩
  ·omega
  ·omega
  ·omega
  ·have h5:=hb k el nN (by omega)
   rw[Sk hD hI (by omega)]at hz
   rw[Bu hb nN,if_neg (by omega),List.getD_eq_getElem?_getD,hz]
   rfl
def W0(cs:List Code)(code:Int):Bool:=cs.all fun c=>decide (c.parent≠code)
theorem Sl{α:Type}{l:List α}{p:α→Prop}{k:Nat}{el:α}(hI:∀c∈l.take k,p c)(nN:l[k]?=some el)(h:p el):∀c∈l.take (k+1),p c:=by
 intro c hc
 rw[List.take_add_one,nN]at hc
 rcases List.mem_append.1 hc with hc|hc
 ·exact hI c hc
 ·simp at hc;subst hc;exact h
theorem gv{cs:List Code}{code:Int}{k:Nat}{el:Code}(nN:cs[k]?=some el)(h:el.parent=code):false=W0 cs code:=by
 refine(List.all_eq_false.2 ⟨el,List.mem_of_getElem? nN,by simp[h]⟩).symm
theorem dZ{cs:List Code}{code:Int}{k:Nat}(hI:∀c∈cs.take k,c.parent≠code)(h:¬(k:Int)<cs.length):true=W0 cs code:=by
 have e:cs.take k=cs:=List.take_of_length_le (by omega)
 rw[e]at hI
 exact(List.all_eq_true.2 fun c hc=>by simpa using hI c hc).symm
theorem aS(nm:List UInt8)(cs:List Code)(code:Int)(nO:cs.length≤9223372036854775807):A3 Tryz.prog 75 [lA nm cs,.i code] (.b (W0 cs code)):=by
 refine C0 Tryz.func75 21 fun nQ E h0=>?_
 repeat'((first|refine S2 ?_|(refine T6 ?_ ?_<;>intro h<;>try exact V1 h)|intro el nN nP|intro el nN|exact T4|refine T5 ?_ ?_|intro ex)<;>try conv=>whnf)
 refine B2 (ι:=Nat) (fun k=>⟨[(1,.i code),(2,.ref 0 0),(5,.i k)],1,[(0,some (.box [.str nm,.sl 2 (cs.map cA)]))]⟩) (fun k=>∀c∈cs.take k,c.parent≠code) (fun k=>cs.length-k) 0 (by simp) (A6 h0) (fun k hI=>?_)
 repeat'((first|refine S2 ?_|(refine T6 ?_ ?_<;>intro h<;>try exact V1 h)|intro el nN nP|intro el nN|exact T4|refine T5 ?_ ?_|intro ex)<;>try conv=>whnf)
 all_goals first
  |exact⟨k+1,Sl hI nN h,by omega,A6 h0⟩
  |(refine A0 rfl (congrArg AV.b ?_);first|exact gv nN h|exact dZ hI h)
structure Good(cs:List Code):Prop where
 before:FT cs
 root:∀c,cs[0]?=some c→c.parent=-1
theorem BE(nm:List UInt8)(cs:List Code)(code d:Nat)(hg:Good cs)(nO:cs.length≤9223372036854775807)(hd:(N0 cs)[code]?=some d):A3 Tryz.prog 31 [lA nm cs,.i code] (.i d):=by
 have hb:=hg.before
 have qI:=KT hb
 have nl:code<cs.length:=by rw[←G8 cs];exact(List.getElem?_eq_some_iff.1 hd).1
 refine C0 Tryz.func31 22 fun nQ E h0=>?_
 repeat'((first|refine S2 ?_|(refine T6 ?_ ?_<;>intro h<;>try exact V1 h)|intro el nN nP|intro el nN|exact T4|refine T5 ?_ ?_|intro ex)<;>try conv=>whnf)
 refine B2 (ι:=Nat×Nat) (fun x=>⟨[(1,.i x.1),(2,.ref 0 0),(5,.i x.2)],1,[(0,some (.box [.str nm,.sl 2 (cs.map cA)]))]⟩) (fun x=>x.1≤code∧(N0 cs)[x.1]?.map (·+x.2)=some d) (fun x=>x.1) (code,0) ⟨Nat.le_refl _,by simp[hd]⟩ (A6 h0) (fun x hI=>?_)
 obtain⟨j,m⟩:=x
 obtain⟨hj,hI⟩:=hI
 rw[Option.map_eq_some_iff]at hI
 obtain⟨dj,yQ,AA2⟩:=hI
 have hdjl:=qI _ _ hd
 simp only at hj yQ AA2
 repeat'((first|refine S2 ?_|(refine T6 ?_ ?_<;>intro h<;>try exact V1 h)|intro el nN nP|intro el nN|exact T4|refine T5 ?_ ?_|intro ex)<;>try conv=>whnf)
 ·have pH:cs[j]?=some el:=nN
  have ph:0<j:=by
   rcases Nat.eq_zero_or_pos j with e|e
   ·subst e;have:=hg.root el pH;omega
   ·exact e
  obtain⟨h1,h2⟩:=hb j el pH ph
  have h3:=Bu hb pH
  rw[yQ,if_neg (by omega)]at h3
  have hp:el.parent.toNat<(N0 cs).length:=by rw[G8];omega
  rw[List.getD_eq_getElem?_getD,List.getElem?_eq_getElem hp]at h3
  simp at h3
  refine⟨(el.parent.toNat,m+1),⟨?_,?_⟩,?_,A8 h0 rfl ⟨congrArg (fun z=>some (AV.i z)) (Int.toNat_of_nonneg h1).symm,rfl,rfl,trivial⟩ ⟨rfl,trivial⟩ rfl rfl rfl⟩
  ·simp only;omega
  ·simp only[List.getElem?_eq_getElem hp,Option.map_some]
   congr 1
   omega
  ·simp only;omega
 ·refine A0 rfl (congrArg (fun z:Nat=>AV.i (z:Int)) ?_)
  have pH:cs[j]?=some el:=nN
  have ph:j=0:=by
   rcases Nat.eq_zero_or_pos j with e|e
   ·exact e
   ·have:=hb j el pH e;omega
  subst ph
  rw[Bu hb pH,if_pos rfl]at yQ
  cases yQ
  omega
def FU(i:Nat)(p:Int):Bool:=if i=0 then decide (p≠-1)else decide (p<0∨(i:Int)≤p)
def scan:List Code→List Code→Option Int
 |_,[]=>none
 |pre,c::r=>if D5 c.name=false then some 3 else if c.name∈pre.map (·.name)then some 10 else if FU pre.length c.parent=true then some 6 else scan (pre++[c]) r
def lv:Int→List (Bool×Nat)→Bool
 |_,[]=>true
 |l,(lf,d)::r=>if lf=true then (if 0≤l∧(d:Int)≠l then false else lv d r)else lv l r
def o8(cs:List Code):List (Bool×Nat):=(List.range cs.length).map fun (i:Nat)=>(W0 cs i,(N0 cs).getD i 0)
def chk(nm:List UInt8)(cs:List Code):Int :=
 if D5 nm=false then 3 else if cs.length=0 then 5 else if 60<cs.length then 1 else match scan [] cs with
 |some e=>e
 |none=>if lv (-1) (o8 cs)=true then 0 else 5
theorem Sm{nm:List UInt8}{cs:List Code}(h:D5 nm=false):3=chk nm cs:=by simp[chk,h]
theorem WQ{nm:List UInt8}{cs:List Code}(h:D5 nm=true)(h2:(cs.length:Int)=0):5=chk nm cs:=by
 have:cs.length=0:=by omega
 simp[chk,h,this]
theorem Sn{nm:List UInt8}{cs:List Code}(h:D5 nm=true)(h3:(60:Int)<cs.length):1=chk nm cs:=by
 have h1:¬cs.length=0:=by omega
 have h2:60<cs.length:=by omega
 simp only[chk,h,h1,h2,if_true,if_false,Bool.true_eq_false]
theorem Da{nm:List UInt8}{cs:List Code}{e:Int}(h:D5 nm=true)(h1:¬(cs.length:Int)=0)(h2:¬(60:Int)<cs.length)(h3:scan [] cs=some e):e=chk nm cs:=by
 have h1:¬cs.length=0:=by omega
 have h2:¬60<cs.length:=by omega
 simp only[chk,h,h1,h2,if_false,Bool.true_eq_false,h3]
theorem aT{nm:List UInt8}{cs:List Code}{b:Bool}(h:D5 nm=true)(h1:¬(cs.length:Int)=0)(h2:¬(60:Int)<cs.length)(h3:scan [] cs=none)(h4:lv (-1) (o8 cs)=b):(if b=true then 0 else 5:Int)=chk nm cs:=by
 have h1:¬cs.length=0:=by omega
 have h2:¬60<cs.length:=by omega
 simp only[chk,h,h1,h2,if_false,Bool.true_eq_false,h3,h4]
theorem An{α:Type}{l:List α}{k:Nat}{x:α}(h:l[k]?=some x):l.drop k=x::l.drop (k+1):=by
 obtain⟨h1,h2⟩:=List.getElem?_eq_some_iff.1 h
 rw[List.drop_eq_getElem_cons h1,h2]
theorem QD{α:Type}{l:List α}{k:Nat}{x:α}(h:l[k]?=some x):l.take (k+1)=l.take k++[x]:=by
 rw[List.take_add_one,h];rfl
def s5(cs:List Code)(k:Nat):Prop:=k≤cs.length∧scan [] cs=scan (cs.take k) (cs.drop k)
theorem s5.step{cs:List Code}{k:Nat}{c:Code}(h:s5 cs k)(hc:cs[k]?=some c)(h1:D5 c.name=true)(h2:c.name∉(cs.take k).map (·.name))(h3:FU k c.parent=false):s5 cs (k+1):=by
 have nR:=(List.getElem?_eq_some_iff.1 hc).1
 refine⟨nR,?_⟩
 have hl:(cs.take k).length=k:=by rw[List.length_take];omega
 rw[h.2,An hc,QD hc]
 simp only[scan,h1,h2,hl,h3,Bool.true_eq_false,if_false,Bool.false_eq_true]
theorem s5.name{cs:List Code}{k:Nat}{c:Code}(h:s5 cs k)(hc:cs[k]?=some c)(h1:D5 c.name=false):scan [] cs=some 3:=by
 rw[h.2,An hc];simp only[scan,h1,if_true]
theorem s5.dup{cs:List Code}{k:Nat}{c:Code}(h:s5 cs k)(hc:cs[k]?=some c)(h1:D5 c.name=true)(h2:c.name∈(cs.take k).map (·.name)):scan [] cs=some 10:=by
 rw[h.2,An hc];simp only[scan,h1,h2,if_true,Bool.true_eq_false,if_false]
theorem s5.bad{cs:List Code}{k:Nat}{c:Code}(h:s5 cs k)(hc:cs[k]?=some c)(h1:D5 c.name=true)(h2:c.name∉(cs.take k).map (·.name))(h3:FU k c.parent=true):scan [] cs=some 6:=by
 have nR:=(List.getElem?_eq_some_iff.1 hc).1
 have hl:(cs.take k).length=k:=by rw[List.length_take];omega
 rw[h.2,An hc];simp only[scan,h1,h2,hl,h3,if_true,Bool.true_eq_false,if_false]
theorem s5.done{cs:List Code}{k:Nat}(h:s5 cs k)(hk:¬(k:Int)<cs.length):scan [] cs=none:=by
 have e:k=cs.length:=by have:=h.1;omega
 rw[h.2,e,List.drop_length];rfl
def KU(cs:List Code)(k:Nat):List (Key×AV):=(cs.take k).map fun c=>(Key.s c.name,AV.b true)
theorem Xy(cs:List Code)(k:Nat):q8 .string (KU cs k):=by
 intro p hp
 obtain⟨c,_,rfl⟩:=List.mem_map.1 hp
 rfl
theorem da(l:List Code)(n:List UInt8):x5 (l.map fun c=>(Key.s c.name,AV.b true)) (.s n) (Z6 (.bool false))=.b (decide (n∈l.map (·.name))):=by
 induction l with
 |nil=>rfl
 |cons a r ih =>
  unfold x5 n8 at ih ⊢
  rw[List.map_cons,List.find?_cons]
  by_cases e:a.name=n
  ·subst e;simp
  ·have:¬n=a.name:=fun h=>e h.symm
   simp only[Key.s.injEq,e,decide_false]
   rw[ih]
   simp[this]
theorem db(cs:List Code)(k:Nat)(n:List UInt8):x5 (KU cs k) (.s n) (Z6 (.bool false))=.b (decide (n∈(cs.take k).map (·.name))):=da _ n
theorem dc(l:List Code)(n:List UInt8)(h:n∉l.map (·.name)):X9 (l.map fun c=>(Key.s c.name,AV.b true)) (.s n) (.b true)=(l.map fun c=>(Key.s c.name,AV.b true))++[(.s n,.b true)]:=by
 induction l with
 |nil=>rfl
 |cons a r ih =>
  simp only[List.map_cons,List.mem_cons,not_or]at h
  have:¬Key.s a.name=Key.s n:=by simp;exact fun e=>h.1 e.symm
  simp only[List.map_cons,X9,this,if_false,List.cons_append,ih h.2]
theorem So{cs:List Code}{k:Nat}{c:Code}(hc:cs[k]?=some c)(h:c.name∉(cs.take k).map (·.name)):X9 (KU cs k) (.s c.name) (.b true)=KU cs (k+1):=by
 unfold KU
 rw[dc _ _ h,QD hc,List.map_append]
 rfl
def DS(cs:List Code):Nat→List Bool
 |0=>List.replicate cs.length false
 |k+1=>if k=0 then DS cs k else match cs[k]? with
  |some c=>(DS cs k).set c.parent.toNat true
  |none=>DS cs k
theorem x6(cs:List Code):∀k,(DS cs k).length=cs.length
 |0=>by simp[DS]
 |k+1=>by
  unfold DS
  split
  ·exact x6 cs k
  ·split
   ·rw[List.length_set];exact x6 cs k
   ·exact x6 cs k
theorem Sp{cs:List Code}{k:Nat}(hk:k=0):DS cs (k+1)=DS cs k:=by simp[DS,hk]
theorem Lw{cs:List Code}{k:Nat}{c:Code}(hk:0<k)(hc:cs[k]?=some c):DS cs (k+1)=(DS cs k).set c.parent.toNat true:=by
 have:¬k=0:=by omega
 rw[DS,if_neg this,hc]
theorem Lx:∀(cs pre:List Code),scan pre cs=none→∀(i:Nat) c,cs[i]?=some c→FU (pre.length+i) c.parent=false
 |[],pre,_,i,c,hc=>by simp at hc
 |a::r,pre,h,i,c,hc=>by
  simp only[scan]at h
  split at h
  ·cases h
  ·split at h
   ·cases h
   ·split at h
    ·cases h
    ·rename_i h3
     cases i with
     |zero=>simp at hc;subst hc;simpa using h3
     |succ i =>
      have:=Lx r (pre++[a]) h i c (by simpa using hc)
      rw[List.length_append,List.length_singleton]at this
      rw[show pre.length+(i+1)=pre.length+1+i by omega]
      exact this
theorem Fv{cs:List Code}(h:scan [] cs=none):Good cs:=by
 refine⟨fun i c hc hi=>?_,fun c hc=>?_⟩
 ·have:=Lx cs [] h i c hc
  simp[FU,Nat.ne_of_gt hi]at this
  omega
 ·have:=Lx cs [] h 0 c hc
  simpa [FU]using this
theorem WR{nm:List UInt8}{cs:List Code}(h:D5 nm=true)(h1:¬(cs.length:Int)=0)(h2:¬(60:Int)<cs.length)(h3:scan [] cs=none)(h4:lv (-1) (o8 cs)=false):5=chk nm cs:=by
 simpa using aT h h1 h2 h3 h4
theorem aU{nm:List UInt8}{cs:List Code}(h:D5 nm=true)(h1:¬(cs.length:Int)=0)(h2:¬(60:Int)<cs.length)(h3:scan [] cs=none)(h4:lv (-1) (o8 cs)=true):0=chk nm cs:=by
 simpa using aT h h1 h2 h3 h4
theorem aV{cs:List Code}(hg:Good cs):∀(k j:Nat),k≤cs.length→j<cs.length→∃b,(DS cs k)[j]?=some b∧(b=true↔∃(i:Nat) (c:Code),0<i∧i<k∧cs[i]?=some c∧c.parent=j)
 |0,j,_,hj=>⟨false,by simp[DS,hj],by simp⟩
 |k+1,j,hk,hj=>by
  obtain⟨b,hb,ih⟩:=aV hg k j (by omega) hj
  by_cases h0:k=0
  ·subst h0
   refine⟨b,by rw[Sp rfl,hb],ih.trans ⟨?_,?_⟩⟩
   ·rintro ⟨i,c,h1,h2,_⟩;omega
   ·rintro ⟨i,c,h1,h2,_⟩;omega
  ·have hc:cs[k]?=some cs[k]:=List.getElem?_eq_getElem (by omega)
   obtain⟨h1,h2⟩:=hg.before k _ hc (by omega)
   by_cases hp:(cs[k].parent).toNat=j
   ·refine⟨true,?_,fun _=>⟨k,_,by omega,by omega,hc,by omega⟩,fun _=>rfl⟩
    rw[Lw (by omega) hc,List.getElem?_set,if_pos hp,if_pos (by rw[x6];omega)]
   ·refine⟨b,?_,ih.trans ⟨?_,?_⟩⟩
    ·rw[Lw (by omega) hc,List.getElem?_set,if_neg hp,hb]
    ·rintro ⟨i,c,g1,g2,g3,g4⟩;exact⟨i,c,g1,by omega,g3,g4⟩
    ·rintro ⟨i,c,g1,g2,g3,g4⟩
     refine⟨i,c,g1,?_,g3,g4⟩
     rcases Nat.lt_or_ge i k with h|h
     ·exact h
     ·have:i=k:=by omega
      subst this
      rw[hc]at g3
      cases g3
      omega
theorem Ly{cs:List Code}(hg:Good cs){j:Nat}{x:Bool}(h:(DS cs cs.length)[j]?=some x):W0 cs j=!x:=by
 have hj:j<cs.length:=by rw[←x6 cs cs.length];exact(List.getElem?_eq_some_iff.1 h).1
 obtain⟨b,hb,sF⟩:=aV hg _ j (Nat.le_refl _) hj
 rw[hb]at h
 cases h
 cases hx:W0 cs j with
 |true =>
  cases x with
  |false=>rfl
  |true =>
   obtain⟨i,c,_,_,h3,h4⟩:=sF.1 rfl
   have:=List.all_eq_true.1 hx c (List.mem_of_getElem? h3)
   simp[h4]at this
 |false =>
  cases x with
  |true=>rfl
  |false =>
   exfalso
   obtain⟨c,hc,he⟩:=List.all_eq_false.1 hx
   obtain⟨i,hi,rfl⟩:=List.getElem_of_mem hc
   have he:cs[i].parent=j:=by simpa using he
   have:(false=true):=sF.2 ⟨i,_,by
    rcases Nat.eq_zero_or_pos i with e|e
    ·subst e
     have:=hg.root _ (List.getElem?_eq_getElem hi)
     omega
    ·exact e,hi,List.getElem?_eq_getElem hi,he⟩
   cases this
theorem Bv{cs:List Code}{k d:Nat}(h:(N0 cs)[k]?=some d):(o8 cs)[k]?=some (W0 cs k,d):=by
 have hk:k<cs.length:=by rw[←G8 cs];exact(List.getElem?_eq_some_iff.1 h).1
 simp[o8,hk,h]
theorem Sq(cs:List Code):(o8 cs).length=cs.length:=by simp[o8]
def EL(cs:List Code)(k:Nat)(l:Int):Prop:=k≤cs.length∧lv (-1) (o8 cs)=lv l ((o8 cs).drop k)∧-1≤l
theorem EL.skip{cs:List Code}{k d:Nat}{l:Int}(h:EL cs k l)(hd:(N0 cs)[k]?=some d)(hl:W0 cs k=false):EL cs (k+1) l:=by
 have hk:k<cs.length:=by rw[←G8 cs];exact(List.getElem?_eq_some_iff.1 hd).1
 refine⟨hk,?_,h.2.2⟩
 rw[h.2.1,An (Bv hd),hl]
 simp[lv]
theorem EL.next{cs:List Code}{k d:Nat}{l:Int}(h:EL cs k l)(hd:(N0 cs)[k]?=some d)(hl:W0 cs k=true)(h2:¬(0≤l∧(d:Int)≠l)):EL cs (k+1) d:=by
 have hk:k<cs.length:=by rw[←G8 cs];exact(List.getElem?_eq_some_iff.1 hd).1
 refine⟨hk,?_,by omega⟩
 rw[h.2.1,An (Bv hd),hl]
 simp only[lv,if_true,if_neg h2]
theorem EL.bad{cs:List Code}{k d:Nat}{l:Int}(h:EL cs k l)(hd:(N0 cs)[k]?=some d)(hl:W0 cs k=true)(h2:0≤l∧(d:Int)≠l):lv (-1) (o8 cs)=false:=by
 rw[h.2.1,An (Bv hd),hl]
 simp only[lv,if_true,if_pos h2]
theorem EL.done{cs:List Code}{k:Nat}{l:Int}(h:EL cs k l)(hk:¬(k:Int)<cs.length):lv (-1) (o8 cs)=true:=by
 have e:k=(o8 cs).length:=by rw[Sq];have:=h.1;omega
 rw[h.2.1,e,List.drop_length];rfl
abbrev bA(b:Bool):List AV:=[.b b]
theorem Eh(nm:List UInt8)(cs:List Code)(nO:cs.length≤9223372036854775807):A3 Tryz.prog 95 [lA nm cs] (.i (chk nm cs)):=by
 refine C0 Tryz.func95 102 fun nQ E h0=>?_
 repeat'((first|refine A1 (CP _) ?_|refine JN ⟨[(1,.ref 0 0),(2,.i 0),(3,.mp 1),(4,.row 2 0 cs.length)],3,[(0,some (.box [.str nm,.sl 2 (cs.map cA)])),(1,some (.map [])),(2,some (.row 4 1 0 (List.replicate cs.length [.b false])))]⟩ ?_ ?_ |refine S2 ?_|(refine T6 ?_ ?_<;>intro h<;>try exact V1 h)|intro el nN nP|intro el nN|exact T4|refine T5 ?_ ?_|intro ex)<;>try conv=>whnf)
 case refine_1=>exact A0 rfl (congrArg AV.i (Sm h))
 case refine_2.refine_1=>exact A0 rfl (congrArg AV.i (WQ (by assumption) h))
 case refine_2.refine_2.refine_1=>exact A0 rfl (congrArg AV.i (Sn (by assumption) h))
 case refine_2.refine_2.refine_2.refine_2 =>
  rename_i hn hz
  have hl:=h
  clear h
  have xp:cs.length≤1000000:=by omega
  refine B2 (ι:=Nat) (fun k=>⟨[(1,.ref 0 0),(3,.mp 1),(4,.row 2 0 cs.length),(31,.sl 2 (cs.map cA)),(32,.i cs.length),(33,.i k)],3,[(0,some (.box [.str nm,.sl 2 (cs.map cA)])),(1,some (.map (KU cs k))),(2,some (.row 4 1 0 ((DS cs k).map bA)))]⟩) (fun k=>s5 cs k) (fun k=>cs.length-k) 0 ⟨Nat.zero_le _,by simp⟩ (A8 h0 rfl ⟨rfl,rfl,rfl,rfl,rfl,rfl,trivial⟩ ⟨rfl,rfl,⟨0,by simp[DS]⟩,trivial⟩ rfl rfl rfl) (fun k hI=>?_)
  repeat'((first|refine A1 (CP _) ?_|refine A1 (Ba _ _ (Fv (hI.done (by assumption))).before xp) ?_|(refine J4 ?_ ?_;exact Xy _ _)|refine RQ (db _ _ _) ?_|(refine Aj ?_ (fun x hx=>?_);(rw[x6];omega)) |refine S2 ?_|(refine T6 ?_ ?_<;>intro h<;>try exact V1 h)|intro el nN nP|intro el nN|exact T4|refine T5 ?_ ?_|intro ex)<;>try conv=>whnf)
  all_goals first
   |exact A0 rfl (congrArg AV.i (Da hn hz hl (hI.name nN (by assumption))))
   |exact A0 rfl (congrArg AV.i (Da hn hz hl (hI.dup nN (by assumption) (by assumption))))
   |exact A0 rfl (congrArg AV.i (Da hn hz hl (hI.bad nN (by assumption) (by assumption) (by unfold FU;split<;>simp<;>omega))))
   |exact⟨k+1,hI.step nN (by assumption) (by assumption) (by unfold FU;split<;>simp<;>omega),by omega,A8 h0 rfl ⟨rfl,rfl,rfl,rfl,rfl,rfl,trivial⟩ ⟨rfl,congrArg C9.map (So nN (by assumption)).symm,⟨0,congrArg (fun l=>C9.row 4 1 0 (l.map bA)) (Sp (by omega))⟩,trivial⟩ rfl rfl rfl⟩
   |exact⟨k+1,hI.step nN (by assumption) (by assumption) (by unfold FU;split<;>simp<;>omega),by omega,A8 h0 rfl ⟨rfl,rfl,rfl,rfl,rfl,rfl,trivial⟩ ⟨rfl,congrArg C9.map (So nN (by assumption)).symm,⟨0,congrArg (C9.row 4 1 0) ((congrArg (List.map bA) (Lw (by omega) nN)).trans List.map_set)⟩,trivial⟩ rfl rfl rfl⟩
   |skip
  have hs:=hI.done h
  have hg:=Fv hs
  have hk:k=cs.length:=by have:=hI.1;omega
  subst hk
  refine B2 (ι:=Nat×Int) (fun x=>⟨[(4,.row 2 0 cs.length),(7,.i x.2),(82,.sl 1 ((N0 cs).map iA)),(83,.i (N0 cs).length),(84,.i x.1)],3,[(2,some (.row 4 1 0 ((DS cs cs.length).map bA)))]⟩) (fun x=>EL cs x.1 x.2) (fun x=>cs.length-x.1) (0,-1) ⟨Nat.zero_le _,by simp,by simp⟩ (A8 h0 rfl ⟨rfl,rfl,rfl,rfl,rfl,trivial⟩ ⟨⟨0,rfl⟩,trivial⟩ rfl rfl rfl) (fun x hJ=>?_)
  obtain⟨j,l⟩:=x
  have tP:=hJ.1
  have zz:=hJ.2.2
  have qI:=G8 cs
  simp only at hJ tP zz
  repeat'((first|(refine Aj ?_ (fun x hx=>?_);(rw[x6];omega)) |refine S2 ?_|(refine T6 ?_ ?_<;>intro h<;>try exact V1 h)|intro el nN nP|intro el nN|exact T4|refine T5 ?_ ?_|intro ex)<;>try conv=>whnf)
  all_goals first
   |exact⟨(j+1,l),hJ.skip nN (by rw[Ly (j:=j) hg hx,h];rfl),by simp only;omega,A8 h0 rfl ⟨rfl,rfl,rfl,rfl,rfl,trivial⟩ ⟨⟨0,rfl⟩,trivial⟩ rfl rfl rfl⟩
   |exact A0 rfl (congrArg AV.i (WR hn hz hl hs (hJ.bad nN (by rw[Ly (j:=j) hg hx];simp[*]) ⟨by assumption,by assumption⟩)))
   |exact⟨(j+1,(el:Int)),hJ.next nN (by rw[Ly (j:=j) hg hx];simp[*]) (by simp only at *;omega),by simp only;omega,A8 h0 rfl ⟨rfl,rfl,rfl,rfl,rfl,trivial⟩ ⟨⟨0,rfl⟩,trivial⟩ rfl rfl rfl⟩
   |exact A0 rfl (congrArg AV.i (aU hn hz hl hs (hJ.done (by simp only at *;omega))))
 all_goals first
  |exact A8 h0 rfl ⟨rfl,rfl,rfl,rfl,trivial⟩ ⟨rfl,rfl,⟨0,rfl⟩,trivial⟩ rfl rfl rfl
  |exact C2 (BZ 1 2 h0 rfl rfl) (A8 h0 rfl ⟨rfl,rfl,rfl,rfl,trivial⟩ ⟨rfl,rfl,⟨0,rfl⟩,trivial⟩ rfl rfl rfl)
theorem de{cs:List Code}{i k:Nat}{a b:Code}(hi:cs[i]?=some a)(hI:∀c∈cs.take k,c.name≠a.name)(hb:cs[k]?=some b)(h:¬b.name=a.name):∀c∈cs.take (k+1),c.name≠a.name:=Sl hI hb h
theorem gw{cs:List Code}{i k:Nat}{a b:Code}(vV:k<i)(hb:cs[k]?=some b)(h:b.name=a.name):a.name∈(cs.take i).map (·.name) :=
 List.mem_map.2 ⟨b,List.mem_of_getElem? (i:=k) (by rw[List.getElem?_take_of_lt vV];exact hb),h⟩
theorem aW{cs:List Code}{i:Nat}{a:Code}(hI:∀c∈cs.take i,c.name≠a.name):a.name∉(cs.take i).map (·.name):=by
 intro h
 obtain⟨c,hc,he⟩:=List.mem_map.1 h
 exact hI c hc he
theorem Bb(nm:List UInt8)(cs:List Code)(nO:cs.length≤9223372036854775807):A3 Tryz.prog 30 [lA nm cs] (.i (chk nm cs)):=by
 refine C0 Tryz.func30 100 fun nQ E h0=>?_
 repeat'((first|refine A1 (BD _) ?_ |refine S2 ?_|(refine T6 ?_ ?_<;>intro h<;>try exact V1 h)|intro el nN nP|intro el nN|exact T4|refine T5 ?_ ?_|intro ex)<;>try conv=>whnf)
 case refine_1=>exact A0 rfl (congrArg AV.i (Sm h))
 case refine_2.refine_1=>exact A0 rfl (congrArg AV.i (WQ (by assumption) h))
 case refine_2.refine_2.refine_1=>exact A0 rfl (congrArg AV.i (Sn (by assumption) h))
 rename_i hn hz
 have hl:=h
 clear h
 refine B2 (ι:=Nat) (fun k=>⟨[(1,.ref 0 0),(3,.i k)],1,[(0,some (.box [.str nm,.sl 2 (cs.map cA)]))]⟩) (fun k=>s5 cs k) (fun k=>cs.length-k) 0 ⟨Nat.zero_le _,by simp⟩ (A6 h0) (fun k hI=>?_)
 repeat'((first|refine A1 (BD _) ?_ |refine S2 ?_|(refine T6 ?_ ?_<;>intro h<;>try exact V1 h)|intro el nN nP|intro el nN|exact T4|refine T5 ?_ ?_|intro ex)<;>try conv=>whnf)
 case refine_2.refine_2.refine_2.refine_1.refine_1=>exact A0 rfl (congrArg AV.i (Da hn hz hl (hI.name nN h)))
 ·rename_i hk
  rename Code=>c
  rename cs[k]?=_=>hc
  have pN:=h
  clear h
  refine B2 (ι:=Nat) (fun j=>⟨[(1,.ref 0 0),(3,.i k),(4,.i j)],1,[(0,some (.box [.str nm,.sl 2 (cs.map cA)]))]⟩) (fun j=>j≤k∧∀a∈cs.take j,a.name≠c.name) (fun j=>k-j) 0 ⟨Nat.zero_le _,by simp⟩ (A6 h0) (fun j hJ=>?_)
  obtain⟨hj,hJ⟩:=hJ
  repeat'((first|(refine B8 ?_ ?_;kernel_rfl) |refine S2 ?_|(refine T6 ?_ ?_<;>intro h<;>try exact V1 h)|intro el nN nP|intro el nN|exact T4|refine T5 ?_ ?_|intro ex)<;>try conv=>whnf)
  all_goals first
   |exact A0 rfl (congrArg AV.i (Da hn hz hl (hI.dup hc pN (gw (by omega) nN h))))
   |exact⟨j+1,⟨by omega,de hc hJ nN h⟩,by omega,A6 h0⟩
   |(have hjk:j=k:=by omega
     subst hjk
     first
      |exact⟨j+1,hI.step hc pN (aW hJ) (by unfold FU;split<;>simp<;>omega),by omega,A6 h0⟩
      |exact A0 rfl (congrArg AV.i (Da hn hz hl (hI.bad hc pN (aW hJ) (by unfold FU;split<;>simp<;>omega)))))
 ·have hs:=hI.done h
  have hg:=Fv hs
  have qI:=G8 cs
  refine B2 (ι:=Nat×Int) (fun x=>⟨[(1,.ref 0 0),(6,.i x.2),(7,.i x.1)],1,[(0,some (.box [.str nm,.sl 2 (cs.map cA)]))]⟩) (fun x=>EL cs x.1 x.2) (fun x=>cs.length-x.1) (0,-1) ⟨Nat.zero_le _,by simp,by simp⟩ (A6 h0) (fun x hJ=>?_)
  obtain⟨j,l⟩:=x
  have tP:=hJ.1
  have zz:=hJ.2.2
  simp only at hJ tP zz
  repeat'((first|refine A1 (aS _ _ _ nO) ?_|refine A1 (BE _ _ _ _ hg nO (List.getElem?_eq_getElem (i:=j) (by omega))) ?_ |refine S2 ?_|(refine T6 ?_ ?_<;>intro h<;>try exact V1 h)|intro el nN nP|intro el nN|exact T4|refine T5 ?_ ?_|intro ex)<;>try conv=>whnf)
  all_goals first
   |exact⟨(j+1,l),hJ.skip (List.getElem?_eq_getElem (by simp only at *;omega)) h,by simp only at *;omega,A6 h0⟩
   |exact A0 rfl (congrArg AV.i (WR hn hz hl hs (hJ.bad (List.getElem?_eq_getElem (by simp only at *;omega)) (by assumption) ⟨by assumption,by assumption⟩)))
   |exact⟨(j+1,((N0 cs)[j]'(by simp only at *;omega):Int)),hJ.next (List.getElem?_eq_getElem (by simp only at *;omega)) (by assumption) (by simp only at *;omega),by simp only at *;omega,A6 h0⟩
   |exact A0 rfl (congrArg AV.i (aU hn hz hl hs (hJ.done (by simp only at *;omega))))
theorem H9{nm:List UInt8}{cs:List Code}(h:chk nm cs=0):Good cs∧0<cs.length∧cs.length≤60:=by
 unfold chk at h
 split at h
 ·cases h
 ·split at h
  ·cases h
  ·split at h
   ·cases h
   ·rename_i h1 h2 h3
    cases hs:scan [] cs with
    |some e =>
     rw[hs]at h
     simp only at h
     subst h
     exfalso
     have:∀(cs pre:List Code) e,scan pre cs=some e→e=3∨e=10∨e=6:=by
      intro cs
      induction cs with
      |nil=>intro pre e h;cases h
      |cons a r ih =>
       intro pre e h
       simp only[scan]at h
       split at h
       ·cases h;exact .inl rfl
       ·split at h
        ·cases h;exact .inr (.inl rfl)
        ·split at h
         ·cases h;exact .inr (.inr rfl)
         ·exact ih _ _ h
     have:=this _ _ _ hs
     omega
    |none=>exact⟨Fv hs,by omega,by omega⟩
theorem Bc{nm:List UInt8}{cs:List Code}(h:chk nm cs=0):cs.length≤1000000:=by have:=(H9 h).2.2;omega
def BQ(ds:List Nat):Nat:=ds.foldl max 0
theorem Sr{ds:List Nat}{k x:Nat}(h:ds[k]?=some x):(max (BQ (ds.take k):Int) x)=(BQ (ds.take (k+1)):Nat):=by
 rw[List.take_add_one,h]
 unfold BQ
 rw[List.foldl_append]
 simp only[Option.toList_some,List.foldl_cons,List.foldl_nil]
 omega
theorem dh(ds:List Nat)(hne:0<ds.length)(nO:ds.length≤1000000):A3 Tryz.prog 172 [.sl 1 (ds.map iA)] (.i (BQ ds)):=by
 refine C0 Tryz.func172 25 fun nQ E h0=>?_
 repeat'((first|refine S2 ?_|(refine T6 ?_ ?_<;>intro h<;>try exact V1 h)|intro el nN nP|intro el nN|exact T4|refine T5 ?_ ?_|intro ex)<;>try conv=>whnf)
 refine B2 (ι:=Nat) (fun k=>⟨[(0,.sl 1 (ds.map iA)),(3,.i (BQ (ds.take k))),(4,.i k)],0,[]⟩) (fun k=>k≤ds.length) (fun k=>ds.length-k) 1 hne (A8 h0 rfl ⟨rfl,congrArg (fun z:Int=>some (AV.i z)) (by
  have:=Sr (k:=0) nN
  rw[←this]
  simp[BQ]),rfl,trivial⟩ trivial rfl rfl rfl) (fun k hI=>?_)
 repeat'((first|refine S2 ?_|(refine T6 ?_ ?_<;>intro h<;>try exact V1 h)|intro el nN nP|intro el nN|exact T4|refine T5 ?_ ?_|intro ex)<;>try conv=>whnf)
 all_goals first
  |exact⟨k+1,by omega,by omega,A8 h0 rfl ⟨rfl,congrArg (fun z:Int=>some (AV.i z)) (Sr nN),rfl,trivial⟩ trivial rfl rfl rfl⟩
  |(refine A0 rfl (congrArg (fun z:Nat=>AV.i (z:Int)) ?_)
    rw[show k=ds.length by omega,List.take_length])
def hasB(nm:List UInt8)(cs:List Code)(code:Int):Bool:=decide (0≤code) && decide (code<cs.length) && decide (chk nm cs=0)
theorem Ss(nm:List UInt8)(cs:List Code)(code:Int)(nO:cs.length≤9223372036854775807):A3 Tryz.prog 173 [lA nm cs,.i code] (.b (hasB nm cs code)):=by
 refine C0 Tryz.func173 19 fun nQ E h0=>?_
 repeat'((first|refine A1 (Eh _ _ nO) ?_ |refine S2 ?_|(refine T6 ?_ ?_<;>intro h<;>try exact V1 h)|intro el nN nP|intro el nN|exact T4|refine T5 ?_ ?_|intro ex)<;>try conv=>whnf)
 all_goals first
  |exact A0 rfl (congrArg AV.b (by simp[hasB, *]))
def C3(nm:List UInt8)(cs:List Code):Int:=if chk nm cs=0 then (BQ (N0 cs):Int)+1 else -1
theorem Lz{cs:List Code}(hb:FT cs):BQ (N0 cs)≤cs.length:=by
 have:∀(ds:List Nat) (m a:Nat),(∀d∈ds,d≤m)→a≤m→ds.foldl max a≤m:=by
  intro ds
  induction ds with
  |nil=>intro m a _ h;exact h
  |cons d r ih=>intro m a h ha;exact ih m _ (fun x hx=>h x (by simp[hx])) (by have:=h d (by simp);omega)
 refine this _ _ _ (fun d hd=>?_) (Nat.zero_le _)
 obtain⟨i,hi,rfl⟩:=List.getElem_of_mem hd
 have h1:=KT hb i _ (List.getElem?_eq_getElem hi)
 have h2:=G8 cs
 omega
theorem Dq(nm:List UInt8)(cs:List Code)(nO:cs.length≤9223372036854775807):A3 Tryz.prog 133 [lA nm cs] (.i (C3 nm cs)):=by
 have qI:=G8 cs
 have vK:=fun h=>And.intro (Lz (cs:=cs) (H9 (nm:=nm) h).1.before) (H9 (nm:=nm) (cs:=cs) h).2.2
 refine C0 Tryz.func133 10 fun nQ E h0=>?_
 repeat'((first|refine A1 (Eh _ _ nO) ?_|refine A1 (Ba _ _ (H9 (by simpa using h)).1.before (Bc (nm:=nm) (by simpa using h))) ?_|refine A1 (dh _ (by have:=H9 (nm:=nm) (cs:=cs) (by simpa using h);omega) (by have:=Bc (nm:=nm) (cs:=cs) (by simpa using h);omega)) ?_|(refine J4 ?_ ?_;(have:=vK (by simpa using h);omega)) |refine S2 ?_|(refine T6 ?_ ?_<;>intro h<;>try exact V1 h)|intro el nN nP|intro el nN|exact T4|refine T5 ?_ ?_|intro ex)<;>try conv=>whnf)
 all_goals first
  |exact A0 rfl (congrArg AV.i (by simp[C3,h]))
  |exact A0 rfl (congrArg AV.i (by have h:chk nm cs=0:=by simpa using h
                                   simp[C3,h]))
theorem gA{nm:List UInt8}{cs:List Code}{code:Int}(h:hasB nm cs code=true):cs.length≤1000000:=by
 simp only[hasB,Bool.and_eq_true,decide_eq_true_eq]at h
 exact Bc h.2
def R1(nm:List UInt8)(cs:List Code)(code:Int):Int:=if hasB nm cs code=true then ((N0 cs).getD code.toNat 0:Nat)else -1
theorem Bw{nm:List UInt8}{cs:List Code}{code:Int}(h:hasB nm cs code=true):Good cs∧0≤code∧code<cs.length∧cs.length≤60∧chk nm cs=0:=by
 simp only[hasB,Bool.and_eq_true,decide_eq_true_eq]at h
 exact⟨(H9 h.2).1,h.1.1,h.1.2,(H9 h.2).2.2,h.2⟩
def par(cs:List Code)(code:Nat):Nat:=((cs[code]?).map (·.parent.toNat)).getD 0
def QE(cs:List Code)(code:Nat):Nat→Nat
 |0=>code
 |s+1=>QE cs (par cs code) s
def dep(cs:List Code)(code:Nat):Nat:=(N0 cs).getD code 0
def M6(nm:List UInt8)(cs:List Code)(code level:Int):Int :=
 if hasB nm cs code=true∧0≤level∧level≤dep cs code.toNat then (QE cs code.toNat (dep cs code.toNat-level.toNat):Int)else -1
theorem CQ{cs:List Code}{j d:Nat}(h:(N0 cs)[j]?=some d):dep cs j=d:=by rw[dep,List.getD_eq_getElem?_getD,h];rfl
theorem Bd{cs:List Code}{j:Nat}(h:j<cs.length):(N0 cs)[j]?=some (dep cs j):=by
 have h2:j<(N0 cs).length:=by rw[G8];exact h
 rw[dep,List.getD_eq_getElem?_getD,List.getElem?_eq_getElem h2];rfl
theorem Oi{cs:List Code}(hb:FT cs){j:Nat}{c:Code}(hc:cs[j]?=some c)(hj:0<j):dep cs j=dep cs (par cs j)+1∧par cs j<j∧(par cs j:Int)=c.parent:=by
 obtain⟨h1,h2⟩:=hb j c hc hj
 have hp:par cs j=c.parent.toNat:=by rw[par,hc];rfl
 have h3:=Bu hb hc
 rw[if_neg (by omega)]at h3
 have:=CQ h3
 rw[hp]
 exact⟨this,by omega,by omega⟩
theorem Su{cs:List Code}(hb:FT cs){c:Code}(hc:cs[0]?=some c):dep cs 0=0:=by
 have h3:=Bu hb hc
 rw[if_pos rfl]at h3
 exact CQ h3
theorem KV(nm:List UInt8)(cs:List Code)(code level:Int)(nO:cs.length≤9223372036854775807):A3 Tryz.prog 134 [lA nm cs,.i code,.i level] (.i (M6 nm cs code level)):=by
 have qI:=G8 cs
 refine C0 Tryz.func134 36 fun nQ E h0=>?_
 repeat'((first|refine A1 (Ss _ _ _ nO) ?_|refine A1 (Ba _ _ (Bw (by assumption)).1.before (gA (by assumption))) ?_|(refine n9 ?_ ?_ (fun el nN=>?_);(have:=Bw (by assumption);omega);(have:=Bw (by assumption);omega)) |refine S2 ?_|(refine T6 ?_ ?_<;>intro h<;>try exact V1 h)|intro el nN nP|intro el nN|exact T4|refine T5 ?_ ?_|intro ex)<;>try conv=>whnf)
 case refine_2=>exact A0 rfl (congrArg AV.i (by rw[M6,if_neg (fun hx=>by rw[h]at hx;cases hx.1)]))
 case refine_1.refine_1=>exact A0 rfl (congrArg AV.i (by rw[M6,if_neg (fun hx=>by omega)]))
 rename_i hh
 obtain⟨hg,qv,xJ,hn60,_⟩:=Bw hh
 have hb:=hg.before
 have hd0:dep cs code.toNat=el:=CQ nN
 have rR:=h
 clear h
 have rS:M6 nm cs code level=if level≤dep cs code.toNat then (QE cs code.toNat (dep cs code.toNat-level.toNat):Int)else -1:=by
  unfold M6
  by_cases hx:level≤dep cs code.toNat
  ·rw[if_pos ⟨hh,by omega,hx⟩,if_pos hx]
  ·rw[if_neg (fun h=>hx h.2.2),if_neg hx]
 rw[rS]
 refine B2 (ι:=Nat) (fun c=>⟨[(1,.i c),(2,.i level),(3,.ref 0 0),(7,.i (dep cs c))],1,[(0,some (.box [.str nm,.sl 2 (cs.map cA)]))]⟩)
  (fun c=>c<cs.length∧((level≤dep cs code.toNat∧level≤dep cs c∧QE cs code.toNat (dep cs code.toNat-level.toNat)=QE cs c (dep cs c-level.toNat))∨(¬level≤dep cs code.toNat∧c=code.toNat))) (fun c=>c) code.toNat
  ⟨by omega,by by_cases hx:level≤dep cs code.toNat<;>simp[hx]⟩ (A8 h0 rfl ⟨congrArg (fun z=>some (AV.i z)) (Int.toNat_of_nonneg qv).symm,rfl,rfl,congrArg (fun z:Nat=>some (AV.i (z:Int))) hd0.symm,trivial⟩ ⟨rfl,trivial⟩ rfl rfl rfl) (fun c hI=>?_)
 obtain⟨nl,hI⟩:=hI
 have hdc:=KT hb c _ (Bd nl)
 repeat'((first|refine S2 ?_|(refine T6 ?_ ?_<;>intro h<;>try exact V1 h)|intro el nN nP|intro el nN|exact T4|refine T5 ?_ ?_|intro ex)<;>try conv=>whnf)
 ·refine A0 rfl (congrArg AV.i ?_)
  rcases hI with ⟨h1,h2,h3⟩|⟨h1,h2⟩
  ·rw[if_pos h1,h3,show dep cs c-level.toNat=0 by omega];rfl
  ·subst h2;omega
 ·rename_i nR _
  rcases hI with ⟨h1,h2,h3⟩|⟨h1,h2⟩
  ·have vH:0<c:=by
    rcases Nat.eq_zero_or_pos c with e|e
    ·subst e;rw[Su hb nN]at *;omega
    ·exact e
   obtain⟨e1,e2,e3⟩:=Oi hb nN vH
   have e4:dep cs c-level.toNat=(dep cs (par cs c)-level.toNat)+1:=by omega
   refine⟨par cs c,⟨by omega,.inl ⟨h1,by omega,by rw[h3,e4];rfl⟩⟩,e2,A8 h0 rfl ⟨congrArg (fun z:Int=>some (AV.i z)) e3.symm,rfl,rfl,congrArg (fun z:Int=>some (AV.i z)) (by omega),trivial⟩ ⟨rfl,trivial⟩ rfl rfl rfl⟩
  ·subst h2;omega
 ·refine A0 rfl (congrArg AV.i ?_)
  rcases hI with ⟨h1,h2,h3⟩|⟨h1,h2⟩
  ·omega
  ·rw[if_neg h1]
def T0(nm:List UInt8)(cs:List Code)(code ng:Int):Bool:=hasB nm cs code && hasB nm cs ng && decide (M6 nm cs code (dep cs ng.toNat)=ng)
theorem Xz(nm:List UInt8)(cs:List Code)(code ng:Int)(nO:cs.length≤9223372036854775807):A3 Tryz.prog 205 [lA nm cs,.i code,.i ng] (.b (T0 nm cs code ng)):=by
 have qI:=G8 cs
 refine C0 Tryz.func205 27 fun nQ E h0=>?_
 repeat'((first|refine A1 (Ss _ _ _ nO) ?_|refine A1 (KV _ _ _ _ nO) ?_|refine A1 (Ba _ _ (Bw (by assumption)).1.before (gA (by assumption))) ?_|(refine n9 ?_ ?_ (fun el nN=>?_);(have:=Bw h;omega);(have:=Bw h;omega))|(refine B8 ?_ ?_;kernel_rfl) |refine S2 ?_|(refine T6 ?_ ?_<;>intro h<;>try exact V1 h)|intro el nN nP|intro el nN|exact T4|refine T5 ?_ ?_|intro ex)<;>try conv=>whnf)
 all_goals first
  |(refine A0 rfl (congrArg AV.b ?_);(simp only[T0, *,CQ nN,Bool.true_and];done))
  |(refine A0 rfl (congrArg AV.b ?_);(simp only[T0, *,Bool.false_and,Bool.and_false,Bool.true_and];done))
def FV(cs:List Code)(level:Int)(k:Nat):List Nat:=(List.range k).filter fun i=>decide ((dep cs i:Int)=level)
theorem Gr(cs:List Code)(level:Int)(k:Nat):(FV cs level k).length≤k:=by
 have:=List.length_filter_le (fun i=>decide ((dep cs i:Int)=level)) (List.range k)
 simpa [FV]using this
theorem KW{cs:List Code}{level:Int}{k:Nat}(h:(dep cs k:Int)=level):FV cs level (k+1)=FV cs level k++[k]:=by
 simp[FV,List.range_succ,List.filter_append,h]
theorem Na{cs:List Code}{level:Int}{k:Nat}(h:¬(dep cs k:Int)=level):FV cs level (k+1)=FV cs level k:=by
 simp[FV,List.range_succ,List.filter_append,h]
def H6(nm:List UInt8)(cs:List Code)(level:Int):List Nat:=if chk nm cs=0 then FV cs level cs.length else []
theorem Gs(nm:List UInt8)(cs:List Code)(level:Int)(nO:cs.length≤9223372036854775807):A3 Tryz.prog 61 [lA nm cs,.i level] (.sl 1 ((H6 nm cs level).map iA)):=by
 have qI:=G8 cs
 refine C0 Tryz.func61 28 fun nQ E h0=>?_
 repeat'((first|refine A1 (Eh _ _ nO) ?_|refine A1 (Ba _ _ (H9 (by simpa using h)).1.before (Bc (nm:=nm) (by simpa using h))) ?_ |refine S2 ?_|(refine T6 ?_ ?_<;>intro h<;>try exact V1 h)|intro el nN nP|intro el nN|exact T4|refine T5 ?_ ?_|intro ex)<;>try conv=>whnf)
 case refine_1=>exact AC (sz:=1) rfl (by rw[H6,if_neg h];rfl)
 have hc:chk nm cs=0:=by simpa using h
 have zy:=Bc hc
 rw[H6,if_pos hc]
 refine B2 (ι:=Nat) (fun k=>⟨[(1,.i level),(5,.row 1 0 (FV cs level k).length),(12,.sl 1 ((N0 cs).map iA)),(13,.i (N0 cs).length),(14,.i k)],2,[(1,some (.row 3 1 0 ((FV cs level k).map iA)))]⟩) (fun k=>k≤cs.length) (fun k=>cs.length-k) 0 (Nat.zero_le _) (C2 (K4 (d:=5) (e:=3) (sz:=1) rfl) (A8 h0 rfl ⟨rfl,rfl,rfl,rfl,rfl,trivial⟩ ⟨⟨0,rfl⟩,trivial⟩ rfl rfl rfl)) (fun k hI=>?_)
 have si:=Gr cs level k
 repeat'((first|(refine J4 ?_ ?_;(intro ss rX u hu;cases rX with|head=>(cases hu with|head=>exact rfl|tail _ h=>cases h)|tail _ h=>cases h))|(refine J4 ?_ ?_;(constructor<;>(simp only[M0,J9,List.length_cons,List.length_nil];omega))) |refine S2 ?_|(refine T6 ?_ ?_<;>intro h<;>try exact V1 h)|intro el nN nP|intro el nN|exact T4|refine T5 ?_ ?_|intro ex)<;>try conv=>whnf)
 ·have hd:(dep cs k:Int)=level:=by rw[CQ nN];exact h
  refine⟨k+1,?_,?_,A8 h0 rfl ⟨rfl,congrArg (fun z=>some (AV.row 1 0 z)) ?_,rfl,rfl,rfl,trivial⟩ ⟨⟨0,congrArg (C9.row 3 1 0) ?_⟩,trivial⟩ rfl rfl rfl⟩
  ·omega
  ·omega
  ·rw[KW hd,List.length_append];rfl
  ·rw[KW hd,List.map_append];rfl
 ·have hd:¬(dep cs k:Int)=level:=by rw[CQ nN];exact h
  refine⟨k+1,?_,?_,A8 h0 rfl ⟨rfl,congrArg (fun z=>some (AV.row 1 0 z)) ?_,rfl,rfl,rfl,trivial⟩ ⟨⟨0,congrArg (C9.row 3 1 0) ?_⟩,trivial⟩ rfl rfl rfl⟩
  ·omega
  ·omega
  ·rw[Na hd]
  ·rw[Na hd]
 ·apply A0
  ·rfl
  ·rw[show cs.length=k by omega]
   rfl
end Go.Proofs.YtjkbhaaobhgkdabGreatDoor
namespace Go.Proofs.YtjkbhaaobhgkdabGreatDoor
open Go Go.Av
set_option maxRecDepth 100000
theorem kV{a:AV}(h:EA Tryz.prog 22 a):∃l:List UInt8,l.length≤maxLen∧a=.sl 1 (l.map O2):=aM Tryz.underlying22 Tryz.underlying5 (by kernel_rfl) h
end Go.Proofs.YtjkbhaaobhgkdabGreatDoor
