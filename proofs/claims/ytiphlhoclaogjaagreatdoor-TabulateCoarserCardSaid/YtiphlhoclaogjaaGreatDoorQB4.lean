/- Plain lists: the first error, the first place, and what was passed. Chapter 1: names, and what they are. Chapter 1: the levels of codes. Chapter 1: leaves and depths, by the reference. Chapter 1: the check of a list. Chapter 1: the check of a list, by the reference. Chapter 1: levels, ancestors, codes of a level. Chapter 1: ancestors. Chapter 1: what stands below, codes of a level, codes with a name. Chapter 1: the codes of a level, and the example. Code lists that came in. -/
import Derived.Test.YtiphlhoclaogjaaGreatDoorQAvTy
import Derived.Test.YtiphlhoclaogjaaGreatDoorQE3
set_option linter.unusedVariables false
set_option linter.unnecessarySimpa false
set_option linter.unusedSimpArgs false
set_option maxHeartbeats 64000000
namespace Go.Proofs.YtiphlhoclaogjaaGreatDoor
open Go Go.Av
attribute [local irreducible] C7 B1 D1 C8 DQ D0 C6 St.le A3 B8
set_option maxRecDepth 100000
theorem H1{α:Type}{l:List α}{k:Nat}{x:α}(h:l[k]?=some x):l.drop k=x::l.drop (k+1):=by
 obtain⟨h1,h2⟩:=List.getElem?_eq_some_iff.1 h
 rw[List.drop_eq_getElem_cons h1,h2]
theorem I0{α:Type}{l:List α}{k:Nat}{x:α}(h:l[k]?=some x):l.take (k+1)=l.take k++[x]:=by
 rw[List.take_add_one,h];rfl
theorem Z0{α:Type}{l:List α}{k:Nat}(h:¬(k:Int)<l.length):l.drop k=[]:=List.drop_eq_nil_of_le (by omega)
theorem DL{α:Type}{l:List α}{k:Nat}(h:¬(k:Int)<l.length):l.take k=l:=List.take_of_length_le (by omega)
theorem D4{α:Type}{l:List α}{k:Nat}{x:α}(h:l[k]?=some x):k<l.length:=(List.getElem?_eq_some_iff.1 h).1
def F3{α:Type}(p:α→Bool):List α→Int→Int
 |[],_=>-1
 |x::r,k=>if p x=true then k else F3 p r (k+1)
theorem Bc{α:Type}(p:α→Bool):∀(l:List α) (k:Int),0≤k→decide (0≤F3 p l k)=l.any p
 |[],k,_=>by simp[F3]
 |x::r,k,h=>by
  unfold F3
  by_cases hp:p x=true
  ·rw[if_pos hp];simp[hp,h]
  ·rw[if_neg hp,Bc p r (k+1) (by omega)]
   simp[hp]
theorem KF{α:Type}(p:α→Bool):∀(l:List α) (k:Int),F3 p l k=-1∨(k≤F3 p l k∧F3 p l k<k+l.length)
 |[],k=>.inl rfl
 |x::r,k=>by
  unfold F3
  by_cases hp:p x=true
  ·rw[if_pos hp];right;simp;omega
  ·rw[if_neg hp]
   rcases KF p r (k+1)with h|h
   ·exact .inl h
   ·right;simp;omega
def E4{α:Type}(f:Nat→α→Int):Nat→List α→Int
 |_,[]=>0
 |i,x::r=>if f i x=0 then E4 f (i+1) r else f i x
def E8{α:Type}(f:Nat→α→Int)(l:List α)(k:Nat):Prop:=k≤l.length∧E4 f 0 l=E4 f k (l.drop k)∧∀(i:Nat) x,i<k→l[i]?=some x→f i x=0
theorem E8.zero{α:Type}(f:Nat→α→Int)(l:List α):E8 f l 0:=⟨Nat.zero_le _,rfl,fun i x h=>absurd h (Nat.not_lt_zero _)⟩
theorem E8.step{α:Type}{f:Nat→α→Int}{l:List α}{k:Nat}{x:α}(h:E8 f l k)(hx:l[k]?=some x)(h0:f k x=0):E8 f l (k+1):=by
 refine⟨D4 hx,?_,fun i y hi hy=>?_⟩
 ·rw[h.2.1,H1 hx,E4,if_pos h0]
 ·by_cases e:i=k
  ·subst e;rw[hx]at hy;cases hy;exact h0
  ·exact h.2.2 i y (by omega) hy
theorem E8.hit{α:Type}{f:Nat→α→Int}{l:List α}{k:Nat}{x:α}(h:E8 f l k)(hx:l[k]?=some x)(h0:¬f k x=0):f k x=E4 f 0 l:=by
 rw[h.2.1,H1 hx,E4,if_neg h0]
theorem E8.done{α:Type}{f:Nat→α→Int}{l:List α}{k:Nat}(h:E8 f l k)(hk:¬(k:Int)<l.length):E4 f 0 l=0:=by
 rw[h.2.1,Z0 hk];rfl
theorem O5{α:Type}{f:Nat→α→Int}:∀{l:List α} {k:Nat},E4 f k l=0→∀(i:Nat) x,l[i]?=some x→f (k+i) x=0
 |[],k,_,i,x,h=>by simp at h
 |y::r,k,h,i,x,hx=>by
  unfold E4 at h
  split at h
  ·cases i with
   |zero=>simp at hx;subst hx;assumption
   |succ i =>
    have:=O5 h i x (by simpa using hx)
    rw[show k+(i+1)=k+1+i by omega];exact this
  ·exact absurd h (by assumption)
def Q1{α:Type}(p:α→Bool)(l:List α)(k:Nat):Prop:=k≤l.length∧∀x∈l.take k,p x=false
theorem Q1.zero{α:Type}(p:α→Bool)(l:List α):Q1 p l 0:=⟨Nat.zero_le _,fun x hx=>by simp at hx⟩
theorem Q1.step{α:Type}{p:α→Bool}{l:List α}{k:Nat}{x:α}(h:Q1 p l k)(hx:l[k]?=some x)(h0:p x=false):Q1 p l (k+1):=by
 refine⟨D4 hx,fun y hy=>?_⟩
 rw[I0 hx]at hy
 rcases List.mem_append.1 hy with hy|hy
 ·exact h.2 y hy
 ·simp at hy;subst hy;exact h0
theorem Q1.hit{α:Type}{p:α→Bool}{l:List α}{k:Nat}{x:α}(h:Q1 p l k)(hx:l[k]?=some x)(h0:p x=true):true=l.any p :=
 (List.any_eq_true.2 ⟨x,List.mem_of_getElem? hx,h0⟩).symm
theorem Q1.done{α:Type}{p:α→Bool}{l:List α}{k:Nat}(h:Q1 p l k)(hk:¬(k:Int)<l.length):false=l.any p:=by
 have:=h.2
 rw[DL hk]at this
 exact(List.any_eq_false.2 (fun x hx=>by simp[this x hx])).symm
end Go.Proofs.YtiphlhoclaogjaaGreatDoor
namespace Go.Proofs.YtiphlhoclaogjaaGreatDoor
open Go Go.Av
attribute [local irreducible] C7 B1 D1 DQ D0 C6 St.le A3 B8
def CZ(c:UInt8):Bool:=decide (97≤c.toNat∧c.toNat≤122∨48≤c.toNat∧c.toNat≤57∨c.toNat=95)
def words:List (List UInt8):=[[97,108,108],[97,110,100],[101,118,101,110,116],[102,114,111,109],[109,105,115,115,105,110,103],[110,111,116],[111,110],[111,114],[116,111],[117,110,100,101,114],[119,104,101,114,101]]
def NN(l:List UInt8):Bool:=match l with|[]=>false|c::_=>decide (97≤c.toNat∧c.toNat≤122)
def D5(l:List UInt8):Bool:=decide (l.length≤16) && NN l && l.all CZ && !(decide (l∈words))
theorem Kw{l:List UInt8}(h:(l.length:Int)<1):false=D5 l:=by
 have:l=[]:=List.eq_nil_of_length_eq_zero (by omega)
 subst this;rfl
theorem NO{l:List UInt8}(h:16<(l.length:Int)):false=D5 l:=by
 have:¬l.length≤16:=by omega
 simp[D5,this]
theorem NP{l:List UInt8}{el:UInt8}(nX:l[Int.toNat 0]?=some el)(h:(el.toNat:Int)<97∨122<(el.toNat:Int)):false=D5 l:=by
 cases l with
 |nil=>rfl
 |cons c r =>
  have:c=el:=by simpa using nX
  subst this
  have:¬(97≤c.toNat∧c.toNat≤122):=by omega
  simp[D5,NN];omega
theorem Pz{l:List UInt8}{k:Nat}{el:UInt8}(nX:l[k]?=some el)(h:¬(97≤el.toNat∧el.toNat≤122∨48≤el.toNat∧el.toNat≤57∨el.toNat=95)):false=D5 l:=by
 have:l.all CZ=false:=by
  rw[List.all_eq_false]
  exact⟨el,List.mem_of_getElem? nX,by simp[CZ];omega⟩
 simp[D5,this]
theorem NQ{l:List UInt8}(h:l∈words):false=D5 l:=by simp[D5,h]
theorem NR{l:List UInt8}{a b:UInt8}{k:Nat}(h1:¬16<(l.length:Int))(h2:¬(a.toNat:Int)<97)(ha:l[Int.toNat 0]?=some a)(h3:¬122<(b.toNat:Int))(hb:l[Int.toNat 0]?=some b)(h4:∀c∈l.take k,CZ c=true)(h5:¬(k:Int)<l.length)(h6:l∉words):true=D5 l:=by
 rw[ha]at hb
 cases hb
 have e:l.take k=l:=List.take_of_length_le (by omega)
 rw[e]at h4
 have:NN l=true:=by
  cases l with
  |nil=>cases ha
  |cons c r=>cases ha;simp[NN];omega
 simp[D5,this,h6]
 exact⟨by omega,h4⟩
theorem WQ{l:List UInt8}{k:Nat}{el:UInt8}(hI:∀c∈l.take k,CZ c=true)(nX:l[k]?=some el)(h:97≤el.toNat∧el.toNat≤122∨48≤el.toNat∧el.toNat≤57∨el.toNat=95):∀c∈l.take (k+1),CZ c=true:=by
 intro c hc
 rw[List.take_add_one,nX]at hc
 rcases List.mem_append.1 hc with hc|hc
 ·exact hI c hc
 ·simp at hc;subst hc;simpa [CZ]using h
theorem Bw(l:List UInt8):A3 Tryz.prog 99 [.str l] (.b (D5 l)):=by
 refine C1 Tryz.func99 62 fun nd E h0=>?_
 repeat'((first|refine S2 ?_|(refine T6 ?_ ?_<;>intro h<;>try exact V1 h)|intro el nX nY|intro el nX|exact T4|refine T5 ?_ ?_|intro ex)<;>try conv=>whnf)
 rotate_left
 ·refine B2 (ι:=Nat) (fun k=>⟨[(0,.str l),(24,.sl 1 (l.map fun b=>[.v (.int .u8 b.toNat)])),(25,.i l.length),(26,.i k)],0,[]⟩) (fun k=>∀c∈l.take k,CZ c=true) (fun k=>l.length-k) 0 (by simp) (A6 h0) (fun k hI=>?_)
  repeat'((first|refine S2 ?_|(refine T6 ?_ ?_<;>intro h<;>try exact V1 h)|intro el nX nY|intro el nX|exact T4|refine T5 ?_ ?_|intro ex)<;>try conv=>whnf)
  all_goals first
   |exact⟨k+1,WQ hI nX (by omega),by omega,A6 h0⟩
   |(refine A0 rfl (congrArg AV.b ?_);first|exact Pz nX (by omega)|exact NQ (by subst h;decide)|exact NR (by assumption) (by assumption) (by assumption) (by assumption) (by assumption) hI (by assumption) (by simp[words, *]))
 all_goals (refine A0 rfl (congrArg AV.b ?_);first|exact Kw h|exact NO h|exact NP nX (by omega))
theorem u7(l:List UInt8):A3 Tryz.prog 81 [.str l] (.b (D5 l)):=by
 refine C1 Tryz.func81 70 fun nd E h0=>?_
 repeat'((first|refine S2 ?_|(refine T6 ?_ ?_<;>intro h<;>try exact V1 h)|intro el nX nY|intro el nX|exact T4|refine T5 ?_ ?_|intro ex)<;>try conv=>whnf)
 rotate_left
 ·refine B2 (ι:=Nat) (fun k=>⟨[(0,.str l),(3,.i k)],0,[]⟩) (fun k=>∀c∈l.take k,CZ c=true) (fun k=>l.length-k) 0 (by simp) (A6 h0) (fun k hI=>?_)
  repeat'((first|refine S2 ?_|(refine T6 ?_ ?_<;>intro h<;>try exact V1 h)|intro el nX nY|intro el nX|exact T4|refine T5 ?_ ?_|intro ex)<;>try conv=>whnf)
  all_goals first
   |exact⟨k+1,WQ hI nX (by omega),by omega,A6 h0⟩
   |(refine A0 rfl (congrArg AV.b ?_);first|exact Pz nX (by omega)|exact NQ (by subst h;decide)|exact NR (by assumption) (by assumption) (by assumption) (by assumption) (by assumption) hI (by assumption) (by simp[words, *]))
 all_goals first
  |(refine A0 rfl (congrArg AV.b ?_);first|exact Kw h|exact NO h|exact NP nX (by omega))
structure Code where
 name:List UInt8
 parent:Int
deriving DecidableEq
abbrev cA(c:Code):List AV:=[.str c.name,.i c.parent]
abbrev iA(d:Nat):List AV:=[.i (d:Int)]
abbrev lA(nm:List UInt8)(cs:List Code):AV:=.agg [.str nm,.sl 2 (cs.map cA)]
def n8:List Nat→List Code→List Nat
 |out,[]=>out
 |out,c::r=>n8 (out++[if out=[]then 0 else out.getD c.parent.toNat 0+1]) r
def N8(cs:List Code):List Nat:=n8 [] cs
theorem Fh:∀(cs:List Code) (out:List Nat),(n8 out cs).length=out.length+cs.length
 |[],out=>rfl
 |c::r,out=>by simp only[n8,Fh r];simp;omega
theorem H5(cs:List Code):(N8 cs).length=cs.length:=by simp[N8,Fh]
theorem FC:∀(cs:List Code) (out:List Nat) (j:Nat),j<out.length→(n8 out cs)[j]?=out[j]?
 |[],out,j,_=>rfl
 |c::r,out,j,h=>by
  simp only[n8]
  rw[FC r _ j (by simp;omega),List.getElem?_append_left h]
theorem IY:∀(cs:List Code) (out:List Nat) (k:Nat) (c:Code),cs[k]?=some c→((out++[]=[]∧k=0)∨True) →
  (n8 out cs)[out.length+k]?=some (if out.length+k=0 then 0 else if c.parent.toNat<out.length+k then (n8 out cs).getD c.parent.toNat 0+1 else 1)
 |[],out,k,c,h,_=>by simp at h
 |a::r,out,0,c,h,_=>by
  simp at h
  subst h
  simp only[n8,Nat.add_zero]
  rw[FC _ _ _ (by simp)]
  simp only[List.getElem?_append_right (Nat.le_refl _),Nat.sub_self,List.getElem?_cons_zero]
  congr 1
  by_cases e:out=[]
  ·subst e;simp
  ·have hl:¬out.length=0:=by simpa using e
   rw[if_neg e,if_neg hl]
   by_cases hp:a.parent.toNat<out.length
   ·rw[if_pos hp,List.getD_eq_getElem?_getD,List.getD_eq_getElem?_getD,FC _ _ _ (by simp;omega),List.getElem?_append_left hp]
   ·rw[if_neg hp,List.getD_eq_getElem?_getD,List.getElem?_eq_none (by omega)]
    rfl
 |a::r,out,k+1,c,h,_=>by
  simp only[n8]
  have:=IY r (out++[if out=[]then 0 else out.getD a.parent.toNat 0+1]) k c (by simpa using h) (.inr trivial)
  simp only[List.length_append,List.length_cons,List.length_nil]at this
  rw[show out.length+(k+1)=out.length+(0+1)+k by omega]
  exact this
def FF(cs:List Code):Prop:=∀(i:Nat) c,cs[i]?=some c→0<i→0≤c.parent∧c.parent<i
theorem Bd{cs:List Code}(h:FF cs){k:Nat}{c:Code}(hc:cs[k]?=some c):(N8 cs)[k]?=some (if k=0 then 0 else (N8 cs).getD c.parent.toNat 0+1):=by
 have h1:=IY cs [] k c hc (.inr trivial)
 simp only[List.length_nil,Nat.zero_add]at h1
 unfold N8
 rw[h1]
 congr 1
 by_cases e:k=0
 ·simp[e]
 ·rw[if_neg e,if_neg e]
  have:=h k c hc (by omega)
  rw[if_pos (by omega)]
def AM(D:List Nat)(n k:Nat):List Nat:=D.take k++List.replicate (n-k) 0
theorem Kx{D:List Nat}{n k:Nat}(hD:D.length=n)(hk:k≤n):(AM D n k).length=n:=by simp[AM,hD];omega
theorem Sm{D:List Nat}{n k i:Nat}(hD:D.length=n)(hk:k≤n)(hi:i<k):(AM D n k)[i]?=D[i]?:=by
 rw[AM,List.getElem?_append_left (by simp;omega),List.getElem?_take_of_lt hi]
theorem dw{D:List Nat}{n k:Nat}{d:Nat}(hD:D.length=n)(hk:k<n)(hd:D[k]?=some d):((AM D n k).map iA).set k (iA d)=(AM D n (k+1)).map iA:=by
 have e:n-k=(n-(k+1))+1:=by omega
 have h1:(D.take k).length=k:=by rw[List.length_take];omega
 rw[AM,e,List.replicate_succ,AM,List.take_add_one,hd]
 rw[List.map_append,List.map_cons,List.set_append_right _ _ (by rw[List.length_map,h1];exact Nat.le_refl _),List.length_map,h1,Nat.sub_self]
 simp
theorem ae(D:List Nat)(n:Nat):(AM D n 0).map iA=List.replicate n (iA 0):=by simp[AM]
theorem af{D:List Nat}{n:Nat}(hD:D.length=n):AM D n n=D:=by simp[AM,←hD]
theorem ah{D:List Nat}{n k:Nat}(hD:D.length=n)(hk:k<n)(hd:D[k]?=some 0):AM D n k=AM D n (k+1):=by
 have e:n-k=(n-(k+1))+1:=by omega
 rw[AM,e,List.replicate_succ,AM,List.take_add_one,hd]
 simp
theorem KG{cs:List Code}(h:FF cs):∀(j d:Nat),(N8 cs)[j]?=some d→d≤j:=by
 intro j
 induction j using Nat.strongRecOn with
 |_ j ih =>
  intro d hd
  have nf:j<cs.length:=by rw[←H5 cs];exact(List.getElem?_eq_some_iff.1 hd).1
  have hc:=List.getElem?_eq_getElem nf
  rw[Bd h hc]at hd
  by_cases e:j=0
  ·simp[e]at hd;omega
  ·rw[if_neg e]at hd
   obtain⟨h1,h2⟩:=h j _ hc (by omega)
   have hp:(cs[j].parent).toNat<j:=by omega
   have hp2:(cs[j].parent).toNat<(N8 cs).length:=by rw[H5];omega
   have:=ih _ hp _ (List.getElem?_eq_getElem hp2)
   rw[List.getD_eq_getElem?_getD,List.getElem?_eq_getElem hp2]at hd
   simp at hd
   omega
theorem BE(nm:List UInt8)(cs:List Code)(hb:FF cs)(nZ:cs.length≤1000000):A3 Tryz.prog 165 [lA nm cs] (.sl 1 ((N8 cs).map iA)):=by
 have hD:=H5 cs
 refine C1 Tryz.func165 31 fun nd E h0=>?_
 repeat'((first|refine S2 ?_|(refine T6 ?_ ?_<;>intro h<;>try exact V1 h)|intro el nX nY|intro el nX|exact T4|refine T5 ?_ ?_|intro ex)<;>try conv=>whnf)
 refine B2 (ι:=Nat) (fun k=>⟨[(1,.ref 0 0),(3,.row 1 0 cs.length),(11,.sl 2 (cs.map cA)),(12,.i cs.length),(13,.i k)],2,[(0,some (.box [.str nm,.sl 2 (cs.map cA)])),(1,some (.row 3 1 0 ((AM (N8 cs) cs.length k).map iA)))]⟩) (fun k=>k≤cs.length) (fun k=>cs.length-k) 0 (Nat.zero_le _) (B3 h0 rfl ⟨rfl,rfl,rfl,rfl,rfl,trivial⟩ ⟨rfl,⟨0,by rw[ae];rfl⟩,trivial⟩ rfl rfl rfl) (fun k hI=>?_)
 repeat'((first|(refine J0 ?_ ?_;(have:=hb k el nX (by omega);omega))|(refine AJ ?_ (fun x hx=>?_);(rw[Kx hD hI];have:=hb k el nX (by omega);omega))|(refine J0 ?_ ?_;(have h5:=hb k el nX (by omega);have h6:=KG hb el.parent.toNat x (by rw[←Sm hD hI (by omega)];exact hx);omega))|(refine AJ ?_ (fun y hy=>?_);(rw[Kx hD hI];omega)) |refine S2 ?_|(refine T6 ?_ ?_<;>intro h<;>try exact V1 h)|intro el nX nY|intro el nX|exact T4|refine T5 ?_ ?_|intro ex)<;>try conv=>whnf)
 rotate_left
 ·refine⟨k+1,?_,?_,B3 h0 rfl ⟨rfl,rfl,rfl,rfl,rfl,trivial⟩ ⟨rfl,⟨0,?_⟩,trivial⟩ rfl rfl rfl⟩
  ·omega
  ·omega
  ·have rE:k=0:=by omega
   exact congrArg (fun l=>D3.row 3 1 0 (l.map iA)) (ah (k:=k) hD (by omega) (by rw[Bd hb nX,if_pos rE])).symm
 ·apply A0
  ·rfl
  ·have e:k=cs.length:=by omega
   subst e
   exact congrArg (fun l=>AV.sl 1 (l.map iA)) (af hD)
 ·rename_i _ z hz
  refine⟨k+1,?_,?_,B3 h0 rfl ⟨rfl,rfl,rfl,rfl,rfl,trivial⟩ ⟨rfl,⟨0,congrArg (D3.row 3 1 0) (dw hD ?_ ?_).symm⟩,trivial⟩ rfl rfl rfl⟩
  ·omega
  ·omega
  ·omega
  ·have h5:=hb k el nX (by omega)
   rw[Sm hD hI (by omega)]at hz
   rw[Bd hb nX,if_neg (by omega),List.getD_eq_getElem?_getD,hz]
   rfl
def Y6(cs:List Code)(code:Int):Bool:=cs.all fun c=>decide (c.parent≠code)
theorem Sn{α:Type}{l:List α}{p:α→Prop}{k:Nat}{el:α}(hI:∀c∈l.take k,p c)(nX:l[k]?=some el)(h:p el):∀c∈l.take (k+1),p c:=by
 intro c hc
 rw[List.take_add_one,nX]at hc
 rcases List.mem_append.1 hc with hc|hc
 ·exact hI c hc
 ·simp at hc;subst hc;exact h
theorem iE{cs:List Code}{code:Int}{k:Nat}{el:Code}(nX:cs[k]?=some el)(h:el.parent=code):false=Y6 cs code:=by
 refine(List.all_eq_false.2 ⟨el,List.mem_of_getElem? nX,by simp[h]⟩).symm
theorem dz{cs:List Code}{code:Int}{k:Nat}(hI:∀c∈cs.take k,c.parent≠code)(h:¬(k:Int)<cs.length):true=Y6 cs code:=by
 have e:cs.take k=cs:=List.take_of_length_le (by omega)
 rw[e]at hI
 exact(List.all_eq_true.2 fun c hc=>by simpa using hI c hc).symm
theorem aj(nm:List UInt8)(cs:List Code)(code:Int)(nZ:cs.length≤9223372036854775807):A3 Tryz.prog 134 [lA nm cs,.i code] (.b (Y6 cs code)):=by
 refine C1 Tryz.func134 21 fun nd E h0=>?_
 repeat'((first|refine S2 ?_|(refine T6 ?_ ?_<;>intro h<;>try exact V1 h)|intro el nX nY|intro el nX|exact T4|refine T5 ?_ ?_|intro ex)<;>try conv=>whnf)
 refine B2 (ι:=Nat) (fun k=>⟨[(1,.i code),(2,.ref 0 0),(5,.i k)],1,[(0,some (.box [.str nm,.sl 2 (cs.map cA)]))]⟩) (fun k=>∀c∈cs.take k,c.parent≠code) (fun k=>cs.length-k) 0 (by simp) (A6 h0) (fun k hI=>?_)
 repeat'((first|refine S2 ?_|(refine T6 ?_ ?_<;>intro h<;>try exact V1 h)|intro el nX nY|intro el nX|exact T4|refine T5 ?_ ?_|intro ex)<;>try conv=>whnf)
 all_goals first
  |exact⟨k+1,Sn hI nX h,by omega,A6 h0⟩
  |(refine A0 rfl (congrArg AV.b ?_);first|exact iE nX h|exact dz hI h)
structure Good(cs:List Code):Prop where
 before:FF cs
 root:∀c,cs[0]?=some c→c.parent=-1
theorem Ah(nm:List UInt8)(cs:List Code)(code d:Nat)(hg:Good cs)(nZ:cs.length≤9223372036854775807)(hd:(N8 cs)[code]?=some d):A3 Tryz.prog 78 [lA nm cs,.i code] (.i d):=by
 have hb:=hg.before
 have qW:=KG hb
 have nz:code<cs.length:=by rw[←H5 cs];exact(List.getElem?_eq_some_iff.1 hd).1
 refine C1 Tryz.func78 22 fun nd E h0=>?_
 repeat'((first|refine S2 ?_|(refine T6 ?_ ?_<;>intro h<;>try exact V1 h)|intro el nX nY|intro el nX|exact T4|refine T5 ?_ ?_|intro ex)<;>try conv=>whnf)
 refine B2 (ι:=Nat×Nat) (fun x=>⟨[(1,.i x.1),(2,.ref 0 0),(5,.i x.2)],1,[(0,some (.box [.str nm,.sl 2 (cs.map cA)]))]⟩) (fun x=>x.1≤code∧(N8 cs)[x.1]?.map (·+x.2)=some d) (fun x=>x.1) (code,0) ⟨Nat.le_refl _,by simp[hd]⟩ (A6 h0) (fun x hI=>?_)
 obtain⟨j,m⟩:=x
 obtain⟨hj,hI⟩:=hI
 rw[Option.map_eq_some_iff]at hI
 obtain⟨dj,yq,ww⟩:=hI
 have hdjl:=qW _ _ hd
 simp only at hj yq ww
 repeat'((first|refine S2 ?_|(refine T6 ?_ ?_<;>intro h<;>try exact V1 h)|intro el nX nY|intro el nX|exact T4|refine T5 ?_ ?_|intro ex)<;>try conv=>whnf)
 ·have pV:cs[j]?=some el:=nX
  have pp:0<j:=by
   rcases Nat.eq_zero_or_pos j with e|e
   ·subst e;have:=hg.root el pV;omega
   ·exact e
  obtain⟨h1,h2⟩:=hb j el pV pp
  have h3:=Bd hb pV
  rw[yq,if_neg (by omega)]at h3
  have hp:el.parent.toNat<(N8 cs).length:=by rw[H5];omega
  rw[List.getD_eq_getElem?_getD,List.getElem?_eq_getElem hp]at h3
  simp at h3
  refine⟨(el.parent.toNat,m+1),⟨?_,?_⟩,?_,B3 h0 rfl ⟨congrArg (fun z=>some (AV.i z)) (Int.toNat_of_nonneg h1).symm,rfl,rfl,trivial⟩ ⟨rfl,trivial⟩ rfl rfl rfl⟩
  ·simp only;omega
  ·simp only[List.getElem?_eq_getElem hp,Option.map_some]
   congr 1
   omega
  ·simp only;omega
 ·refine A0 rfl (congrArg (fun z:Nat=>AV.i (z:Int)) ?_)
  have pV:cs[j]?=some el:=nX
  have pp:j=0:=by
   rcases Nat.eq_zero_or_pos j with e|e
   ·exact e
   ·have:=hb j el pV e;omega
  subst pp
  rw[Bd hb pV,if_pos rfl]at yq
  cases yq
  omega
def FG(i:Nat)(p:Int):Bool:=if i=0 then decide (p≠-1)else decide (p<0∨(i:Int)≤p)
def scan:List Code→List Code→Option Int
 |_,[]=>none
 |pre,c::r=>if D5 c.name=false then some 3 else if c.name∈pre.map (·.name)then some 10 else if FG pre.length c.parent=true then some 6 else scan (pre++[c]) r
def lv:Int→List (Bool×Nat)→Bool
 |_,[]=>true
 |l,(lf,d)::r=>if lf=true then (if 0≤l∧(d:Int)≠l then false else lv d r)else lv l r
def p0(cs:List Code):List (Bool×Nat):=(List.range cs.length).map fun (i:Nat)=>(Y6 cs i,(N8 cs).getD i 0)
def chk(nm:List UInt8)(cs:List Code):Int :=
 if D5 nm=false then 3 else if cs.length=0 then 5 else if 60<cs.length then 1 else match scan [] cs with
 |some e=>e
 |none=>if lv (-1) (p0 cs)=true then 0 else 5
theorem So{nm:List UInt8}{cs:List Code}(h:D5 nm=false):3=chk nm cs:=by simp[chk,h]
theorem WR{nm:List UInt8}{cs:List Code}(h:D5 nm=true)(h2:(cs.length:Int)=0):5=chk nm cs:=by
 have:cs.length=0:=by omega
 simp[chk,h,this]
theorem Sp{nm:List UInt8}{cs:List Code}(h:D5 nm=true)(h3:(60:Int)<cs.length):1=chk nm cs:=by
 have h1:¬cs.length=0:=by omega
 have h2:60<cs.length:=by omega
 simp only[chk,h,h1,h2,if_true,if_false,Bool.true_eq_false]
theorem DM{nm:List UInt8}{cs:List Code}{e:Int}(h:D5 nm=true)(h1:¬(cs.length:Int)=0)(h2:¬(60:Int)<cs.length)(h3:scan [] cs=some e):e=chk nm cs:=by
 have h1:¬cs.length=0:=by omega
 have h2:¬60<cs.length:=by omega
 simp only[chk,h,h1,h2,if_false,Bool.true_eq_false,h3]
theorem ak{nm:List UInt8}{cs:List Code}{b:Bool}(h:D5 nm=true)(h1:¬(cs.length:Int)=0)(h2:¬(60:Int)<cs.length)(h3:scan [] cs=none)(h4:lv (-1) (p0 cs)=b):(if b=true then 0 else 5:Int)=chk nm cs:=by
 have h1:¬cs.length=0:=by omega
 have h2:¬60<cs.length:=by omega
 simp only[chk,h,h1,h2,if_false,Bool.true_eq_false,h3,h4]
theorem AN{α:Type}{l:List α}{k:Nat}{x:α}(h:l[k]?=some x):l.drop k=x::l.drop (k+1):=by
 obtain⟨h1,h2⟩:=List.getElem?_eq_some_iff.1 h
 rw[List.drop_eq_getElem_cons h1,h2]
theorem QA{α:Type}{l:List α}{k:Nat}{x:α}(h:l[k]?=some x):l.take (k+1)=l.take k++[x]:=by
 rw[List.take_add_one,h];rfl
def s7(cs:List Code)(k:Nat):Prop:=k≤cs.length∧scan [] cs=scan (cs.take k) (cs.drop k)
theorem s7.step{cs:List Code}{k:Nat}{c:Code}(h:s7 cs k)(hc:cs[k]?=some c)(h1:D5 c.name=true)(h2:c.name∉(cs.take k).map (·.name))(h3:FG k c.parent=false):s7 cs (k+1):=by
 have nf:=(List.getElem?_eq_some_iff.1 hc).1
 refine⟨nf,?_⟩
 have hl:(cs.take k).length=k:=by rw[List.length_take];omega
 rw[h.2,AN hc,QA hc]
 simp only[scan,h1,h2,hl,h3,Bool.true_eq_false,if_false,Bool.false_eq_true]
theorem s7.name{cs:List Code}{k:Nat}{c:Code}(h:s7 cs k)(hc:cs[k]?=some c)(h1:D5 c.name=false):scan [] cs=some 3:=by
 rw[h.2,AN hc];simp only[scan,h1,if_true]
theorem s7.dup{cs:List Code}{k:Nat}{c:Code}(h:s7 cs k)(hc:cs[k]?=some c)(h1:D5 c.name=true)(h2:c.name∈(cs.take k).map (·.name)):scan [] cs=some 10:=by
 rw[h.2,AN hc];simp only[scan,h1,h2,if_true,Bool.true_eq_false,if_false]
theorem s7.bad{cs:List Code}{k:Nat}{c:Code}(h:s7 cs k)(hc:cs[k]?=some c)(h1:D5 c.name=true)(h2:c.name∉(cs.take k).map (·.name))(h3:FG k c.parent=true):scan [] cs=some 6:=by
 have nf:=(List.getElem?_eq_some_iff.1 hc).1
 have hl:(cs.take k).length=k:=by rw[List.length_take];omega
 rw[h.2,AN hc];simp only[scan,h1,h2,hl,h3,if_true,Bool.true_eq_false,if_false]
theorem s7.done{cs:List Code}{k:Nat}(h:s7 cs k)(hk:¬(k:Int)<cs.length):scan [] cs=none:=by
 have e:k=cs.length:=by have:=h.1;omega
 rw[h.2,e,List.drop_length];rfl
def KH(cs:List Code)(k:Nat):List (Key×AV):=(cs.take k).map fun c=>(Key.s c.name,AV.b true)
theorem YE(cs:List Code)(k:Nat):r8 .string (KH cs k):=by
 intro p hp
 obtain⟨c,_,rfl⟩:=List.mem_map.1 hp
 rfl
theorem eA(l:List Code)(n:List UInt8):u6 (l.map fun c=>(Key.s c.name,AV.b true)) (.s n) (d9 (.bool false))=.b (decide (n∈l.map (·.name))):=by
 induction l with
 |nil=>rfl
 |cons a r ih =>
  unfold u6 m8 at ih ⊢
  rw[List.map_cons,List.find?_cons]
  by_cases e:a.name=n
  ·subst e;simp
  ·have:¬n=a.name:=fun h=>e h.symm
   simp only[Key.s.injEq,e,decide_false]
   rw[ih]
   simp[this]
theorem eB(cs:List Code)(k:Nat)(n:List UInt8):u6 (KH cs k) (.s n) (d9 (.bool false))=.b (decide (n∈(cs.take k).map (·.name))):=eA _ n
theorem eC(l:List Code)(n:List UInt8)(h:n∉l.map (·.name)):b8 (l.map fun c=>(Key.s c.name,AV.b true)) (.s n) (.b true)=(l.map fun c=>(Key.s c.name,AV.b true))++[(.s n,.b true)]:=by
 induction l with
 |nil=>rfl
 |cons a r ih =>
  simp only[List.map_cons,List.mem_cons,not_or]at h
  have:¬Key.s a.name=Key.s n:=by simp;exact fun e=>h.1 e.symm
  simp only[List.map_cons,b8,this,if_false,List.cons_append,ih h.2]
theorem Sq{cs:List Code}{k:Nat}{c:Code}(hc:cs[k]?=some c)(h:c.name∉(cs.take k).map (·.name)):b8 (KH cs k) (.s c.name) (.b true)=KH cs (k+1):=by
 unfold KH
 rw[eC _ _ h,QA hc,List.map_append]
 rfl
def DE(cs:List Code):Nat→List Bool
 |0=>List.replicate cs.length false
 |k+1=>if k=0 then DE cs k else match cs[k]? with
  |some c=>(DE cs k).set c.parent.toNat true
  |none=>DE cs k
theorem u9(cs:List Code):∀k,(DE cs k).length=cs.length
 |0=>by simp[DE]
 |k+1=>by
  unfold DE
  split
  ·exact u9 cs k
  ·split
   ·rw[List.length_set];exact u9 cs k
   ·exact u9 cs k
theorem Sr{cs:List Code}{k:Nat}(hk:k=0):DE cs (k+1)=DE cs k:=by simp[DE,hk]
theorem Ll{cs:List Code}{k:Nat}{c:Code}(hk:0<k)(hc:cs[k]?=some c):DE cs (k+1)=(DE cs k).set c.parent.toNat true:=by
 have:¬k=0:=by omega
 rw[DE,if_neg this,hc]
theorem Lm:∀(cs pre:List Code),scan pre cs=none→∀(i:Nat) c,cs[i]?=some c→FG (pre.length+i) c.parent=false
 |[],pre,_,i,c,hc=>by simp at hc
 |a::r,pre,h,i,c,hc=>by
  simp only[scan]at h
  split at h
  ·cases h
  ·split at h
   ·cases h
   ·split at h
    ·cases h
    ·rename_i h3
     cases i with
     |zero=>simp at hc;subst hc;simpa using h3
     |succ i =>
      have:=Lm r (pre++[a]) h i c (by simpa using hc)
      rw[List.length_append,List.length_singleton]at this
      rw[show pre.length+(i+1)=pre.length+1+i by omega]
      exact this
theorem Fi{cs:List Code}(h:scan [] cs=none):Good cs:=by
 refine⟨fun i c hc hi=>?_,fun c hc=>?_⟩
 ·have:=Lm cs [] h i c hc
  simp[FG,Nat.ne_of_gt hi]at this
  omega
 ·have:=Lm cs [] h 0 c hc
  simpa [FG]using this
theorem WS{nm:List UInt8}{cs:List Code}(h:D5 nm=true)(h1:¬(cs.length:Int)=0)(h2:¬(60:Int)<cs.length)(h3:scan [] cs=none)(h4:lv (-1) (p0 cs)=false):5=chk nm cs:=by
 simpa using ak h h1 h2 h3 h4
theorem am{nm:List UInt8}{cs:List Code}(h:D5 nm=true)(h1:¬(cs.length:Int)=0)(h2:¬(60:Int)<cs.length)(h3:scan [] cs=none)(h4:lv (-1) (p0 cs)=true):0=chk nm cs:=by
 simpa using ak h h1 h2 h3 h4
theorem an{cs:List Code}(hg:Good cs):∀(k j:Nat),k≤cs.length→j<cs.length→∃b,(DE cs k)[j]?=some b∧(b=true↔∃(i:Nat) (c:Code),0<i∧i<k∧cs[i]?=some c∧c.parent=j)
 |0,j,_,hj=>⟨false,by simp[DE,hj],by simp⟩
 |k+1,j,hk,hj=>by
  obtain⟨b,hb,ih⟩:=an hg k j (by omega) hj
  by_cases h0:k=0
  ·subst h0
   refine⟨b,by rw[Sr rfl,hb],ih.trans ⟨?_,?_⟩⟩
   ·rintro ⟨i,c,h1,h2,_⟩;omega
   ·rintro ⟨i,c,h1,h2,_⟩;omega
  ·have hc:cs[k]?=some cs[k]:=List.getElem?_eq_getElem (by omega)
   obtain⟨h1,h2⟩:=hg.before k _ hc (by omega)
   by_cases hp:(cs[k].parent).toNat=j
   ·refine⟨true,?_,fun _=>⟨k,_,by omega,by omega,hc,by omega⟩,fun _=>rfl⟩
    rw[Ll (by omega) hc,List.getElem?_set,if_pos hp,if_pos (by rw[u9];omega)]
   ·refine⟨b,?_,ih.trans ⟨?_,?_⟩⟩
    ·rw[Ll (by omega) hc,List.getElem?_set,if_neg hp,hb]
    ·rintro ⟨i,c,g1,g2,g3,g4⟩;exact⟨i,c,g1,by omega,g3,g4⟩
    ·rintro ⟨i,c,g1,g2,g3,g4⟩
     refine⟨i,c,g1,?_,g3,g4⟩
     rcases Nat.lt_or_ge i k with h|h
     ·exact h
     ·have:i=k:=by omega
      subst this
      rw[hc]at g3
      cases g3
      omega
theorem Ln{cs:List Code}(hg:Good cs){j:Nat}{x:Bool}(h:(DE cs cs.length)[j]?=some x):Y6 cs j=!x:=by
 have hj:j<cs.length:=by rw[←u9 cs cs.length];exact(List.getElem?_eq_some_iff.1 h).1
 obtain⟨b,hb,so⟩:=an hg _ j (Nat.le_refl _) hj
 rw[hb]at h
 cases h
 cases hx:Y6 cs j with
 |true =>
  cases x with
  |false=>rfl
  |true =>
   obtain⟨i,c,_,_,h3,h4⟩:=so.1 rfl
   have:=List.all_eq_true.1 hx c (List.mem_of_getElem? h3)
   simp[h4]at this
 |false =>
  cases x with
  |true=>rfl
  |false =>
   exfalso
   obtain⟨c,hc,he⟩:=List.all_eq_false.1 hx
   obtain⟨i,hi,rfl⟩:=List.getElem_of_mem hc
   have he:cs[i].parent=j:=by simpa using he
   have:(false=true):=so.2 ⟨i,_,by
    rcases Nat.eq_zero_or_pos i with e|e
    ·subst e
     have:=hg.root _ (List.getElem?_eq_getElem hi)
     omega
    ·exact e,hi,List.getElem?_eq_getElem hi,he⟩
   cases this
theorem Be{cs:List Code}{k d:Nat}(h:(N8 cs)[k]?=some d):(p0 cs)[k]?=some (Y6 cs k,d):=by
 have hk:k<cs.length:=by rw[←H5 cs];exact(List.getElem?_eq_some_iff.1 h).1
 simp[p0,hk,h]
theorem Ss(cs:List Code):(p0 cs).length=cs.length:=by simp[p0]
def Dw(cs:List Code)(k:Nat)(l:Int):Prop:=k≤cs.length∧lv (-1) (p0 cs)=lv l ((p0 cs).drop k)∧-1≤l
theorem Dw.skip{cs:List Code}{k d:Nat}{l:Int}(h:Dw cs k l)(hd:(N8 cs)[k]?=some d)(hl:Y6 cs k=false):Dw cs (k+1) l:=by
 have hk:k<cs.length:=by rw[←H5 cs];exact(List.getElem?_eq_some_iff.1 hd).1
 refine⟨hk,?_,h.2.2⟩
 rw[h.2.1,AN (Be hd),hl]
 simp[lv]
theorem Dw.next{cs:List Code}{k d:Nat}{l:Int}(h:Dw cs k l)(hd:(N8 cs)[k]?=some d)(hl:Y6 cs k=true)(h2:¬(0≤l∧(d:Int)≠l)):Dw cs (k+1) d:=by
 have hk:k<cs.length:=by rw[←H5 cs];exact(List.getElem?_eq_some_iff.1 hd).1
 refine⟨hk,?_,by omega⟩
 rw[h.2.1,AN (Be hd),hl]
 simp only[lv,if_true,if_neg h2]
theorem Dw.bad{cs:List Code}{k d:Nat}{l:Int}(h:Dw cs k l)(hd:(N8 cs)[k]?=some d)(hl:Y6 cs k=true)(h2:0≤l∧(d:Int)≠l):lv (-1) (p0 cs)=false:=by
 rw[h.2.1,AN (Be hd),hl]
 simp only[lv,if_true,if_pos h2]
theorem Dw.done{cs:List Code}{k:Nat}{l:Int}(h:Dw cs k l)(hk:¬(k:Int)<cs.length):lv (-1) (p0 cs)=true:=by
 have e:k=(p0 cs).length:=by rw[Ss];have:=h.1;omega
 rw[h.2.1,e,List.drop_length];rfl
abbrev bA(b:Bool):List AV:=[.b b]
theorem EV(nm:List UInt8)(cs:List Code)(nZ:cs.length≤9223372036854775807):A3 Tryz.prog 153 [lA nm cs] (.i (chk nm cs)):=by
 refine C1 Tryz.func153 102 fun nd E h0=>?_
 repeat'((first|refine A1 (Bw _) ?_|refine JF ⟨[(1,.ref 0 0),(2,.i 0),(3,.mp 1),(4,.row 2 0 cs.length)],3,[(0,some (.box [.str nm,.sl 2 (cs.map cA)])),(1,some (.map [])),(2,some (.row 4 1 0 (List.replicate cs.length [.b false])))]⟩ ?_ ?_ |refine S2 ?_|(refine T6 ?_ ?_<;>intro h<;>try exact V1 h)|intro el nX nY|intro el nX|exact T4|refine T5 ?_ ?_|intro ex)<;>try conv=>whnf)
 case refine_1=>exact A0 rfl (congrArg AV.i (So h))
 case refine_2.refine_1=>exact A0 rfl (congrArg AV.i (WR (by assumption) h))
 case refine_2.refine_2.refine_1=>exact A0 rfl (congrArg AV.i (Sp (by assumption) h))
 case refine_2.refine_2.refine_2.refine_2 =>
  rename_i hn hz
  have hl:=h
  clear h
  have wj:cs.length≤1000000:=by omega
  refine B2 (ι:=Nat) (fun k=>⟨[(1,.ref 0 0),(3,.mp 1),(4,.row 2 0 cs.length),(31,.sl 2 (cs.map cA)),(32,.i cs.length),(33,.i k)],3,[(0,some (.box [.str nm,.sl 2 (cs.map cA)])),(1,some (.map (KH cs k))),(2,some (.row 4 1 0 ((DE cs k).map bA)))]⟩) (fun k=>s7 cs k) (fun k=>cs.length-k) 0 ⟨Nat.zero_le _,by simp⟩ (B3 h0 rfl ⟨rfl,rfl,rfl,rfl,rfl,rfl,trivial⟩ ⟨rfl,rfl,⟨0,by simp[DE]⟩,trivial⟩ rfl rfl rfl) (fun k hI=>?_)
  repeat'((first|refine A1 (Bw _) ?_|refine A1 (BE _ _ (Fi (hI.done (by assumption))).before wj) ?_|(refine J0 ?_ ?_;exact YE _ _)|refine RQ (eB _ _ _) ?_|(refine AJ ?_ (fun x hx=>?_);(rw[u9];omega)) |refine S2 ?_|(refine T6 ?_ ?_<;>intro h<;>try exact V1 h)|intro el nX nY|intro el nX|exact T4|refine T5 ?_ ?_|intro ex)<;>try conv=>whnf)
  all_goals first
   |exact A0 rfl (congrArg AV.i (DM hn hz hl (hI.name nX (by assumption))))
   |exact A0 rfl (congrArg AV.i (DM hn hz hl (hI.dup nX (by assumption) (by assumption))))
   |exact A0 rfl (congrArg AV.i (DM hn hz hl (hI.bad nX (by assumption) (by assumption) (by unfold FG;split<;>simp<;>omega))))
   |exact⟨k+1,hI.step nX (by assumption) (by assumption) (by unfold FG;split<;>simp<;>omega),by omega,B3 h0 rfl ⟨rfl,rfl,rfl,rfl,rfl,rfl,trivial⟩ ⟨rfl,congrArg D3.map (Sq nX (by assumption)).symm,⟨0,congrArg (fun l=>D3.row 4 1 0 (l.map bA)) (Sr (by omega))⟩,trivial⟩ rfl rfl rfl⟩
   |exact⟨k+1,hI.step nX (by assumption) (by assumption) (by unfold FG;split<;>simp<;>omega),by omega,B3 h0 rfl ⟨rfl,rfl,rfl,rfl,rfl,rfl,trivial⟩ ⟨rfl,congrArg D3.map (Sq nX (by assumption)).symm,⟨0,congrArg (D3.row 4 1 0) ((congrArg (List.map bA) (Ll (by omega) nX)).trans List.map_set)⟩,trivial⟩ rfl rfl rfl⟩
   |skip
  have hs:=hI.done h
  have hg:=Fi hs
  have hk:k=cs.length:=by have:=hI.1;omega
  subst hk
  refine B2 (ι:=Nat×Int) (fun x=>⟨[(4,.row 2 0 cs.length),(7,.i x.2),(82,.sl 1 ((N8 cs).map iA)),(83,.i (N8 cs).length),(84,.i x.1)],3,[(2,some (.row 4 1 0 ((DE cs cs.length).map bA)))]⟩) (fun x=>Dw cs x.1 x.2) (fun x=>cs.length-x.1) (0,-1) ⟨Nat.zero_le _,by simp,by simp⟩ (B3 h0 rfl ⟨rfl,rfl,rfl,rfl,rfl,trivial⟩ ⟨⟨0,rfl⟩,trivial⟩ rfl rfl rfl) (fun x hJ=>?_)
  obtain⟨j,l⟩:=x
  have tU:=hJ.1
  have zb:=hJ.2.2
  have qW:=H5 cs
  simp only at hJ tU zb
  repeat'((first|(refine AJ ?_ (fun x hx=>?_);(rw[u9];omega)) |refine S2 ?_|(refine T6 ?_ ?_<;>intro h<;>try exact V1 h)|intro el nX nY|intro el nX|exact T4|refine T5 ?_ ?_|intro ex)<;>try conv=>whnf)
  all_goals first
   |exact⟨(j+1,l),hJ.skip nX (by rw[Ln (j:=j) hg hx,h];rfl),by simp only;omega,B3 h0 rfl ⟨rfl,rfl,rfl,rfl,rfl,trivial⟩ ⟨⟨0,rfl⟩,trivial⟩ rfl rfl rfl⟩
   |exact A0 rfl (congrArg AV.i (WS hn hz hl hs (hJ.bad nX (by rw[Ln (j:=j) hg hx];simp[*]) ⟨by assumption,by assumption⟩)))
   |exact⟨(j+1,(el:Int)),hJ.next nX (by rw[Ln (j:=j) hg hx];simp[*]) (by simp only at *;omega),by simp only;omega,B3 h0 rfl ⟨rfl,rfl,rfl,rfl,rfl,trivial⟩ ⟨⟨0,rfl⟩,trivial⟩ rfl rfl rfl⟩
   |exact A0 rfl (congrArg AV.i (am hn hz hl hs (hJ.done (by simp only at *;omega))))
 all_goals first
  |exact B3 h0 rfl ⟨rfl,rfl,rfl,rfl,trivial⟩ ⟨rfl,rfl,⟨0,rfl⟩,trivial⟩ rfl rfl rfl
  |exact C2 (BC 1 2 h0 rfl rfl) (B3 h0 rfl ⟨rfl,rfl,rfl,rfl,trivial⟩ ⟨rfl,rfl,⟨0,rfl⟩,trivial⟩ rfl rfl rfl)
theorem eD{cs:List Code}{i k:Nat}{a b:Code}(hi:cs[i]?=some a)(hI:∀c∈cs.take k,c.name≠a.name)(hb:cs[k]?=some b)(h:¬b.name=a.name):∀c∈cs.take (k+1),c.name≠a.name:=Sn hI hb h
theorem iF{cs:List Code}{i k:Nat}{a b:Code}(vX:k<i)(hb:cs[k]?=some b)(h:b.name=a.name):a.name∈(cs.take i).map (·.name) :=
 List.mem_map.2 ⟨b,List.mem_of_getElem? (i:=k) (by rw[List.getElem?_take_of_lt vX];exact hb),h⟩
theorem ao{cs:List Code}{i:Nat}{a:Code}(hI:∀c∈cs.take i,c.name≠a.name):a.name∉(cs.take i).map (·.name):=by
 intro h
 obtain⟨c,hc,he⟩:=List.mem_map.1 h
 exact hI c hc he
theorem BF(nm:List UInt8)(cs:List Code)(nZ:cs.length≤9223372036854775807):A3 Tryz.prog 77 [lA nm cs] (.i (chk nm cs)):=by
 refine C1 Tryz.func77 100 fun nd E h0=>?_
 repeat'((first|refine A1 (u7 _) ?_ |refine S2 ?_|(refine T6 ?_ ?_<;>intro h<;>try exact V1 h)|intro el nX nY|intro el nX|exact T4|refine T5 ?_ ?_|intro ex)<;>try conv=>whnf)
 case refine_1=>exact A0 rfl (congrArg AV.i (So h))
 case refine_2.refine_1=>exact A0 rfl (congrArg AV.i (WR (by assumption) h))
 case refine_2.refine_2.refine_1=>exact A0 rfl (congrArg AV.i (Sp (by assumption) h))
 rename_i hn hz
 have hl:=h
 clear h
 refine B2 (ι:=Nat) (fun k=>⟨[(1,.ref 0 0),(3,.i k)],1,[(0,some (.box [.str nm,.sl 2 (cs.map cA)]))]⟩) (fun k=>s7 cs k) (fun k=>cs.length-k) 0 ⟨Nat.zero_le _,by simp⟩ (A6 h0) (fun k hI=>?_)
 repeat'((first|refine A1 (u7 _) ?_ |refine S2 ?_|(refine T6 ?_ ?_<;>intro h<;>try exact V1 h)|intro el nX nY|intro el nX|exact T4|refine T5 ?_ ?_|intro ex)<;>try conv=>whnf)
 case refine_2.refine_2.refine_2.refine_1.refine_1=>exact A0 rfl (congrArg AV.i (DM hn hz hl (hI.name nX h)))
 ·rename_i hk
  rename Code=>c
  rename cs[k]?=_=>hc
  have pZ:=h
  clear h
  refine B2 (ι:=Nat) (fun j=>⟨[(1,.ref 0 0),(3,.i k),(4,.i j)],1,[(0,some (.box [.str nm,.sl 2 (cs.map cA)]))]⟩) (fun j=>j≤k∧∀a∈cs.take j,a.name≠c.name) (fun j=>k-j) 0 ⟨Nat.zero_le _,by simp⟩ (A6 h0) (fun j hJ=>?_)
  obtain⟨hj,hJ⟩:=hJ
  repeat'((first|(refine B5 ?_ ?_;kernel_rfl) |refine S2 ?_|(refine T6 ?_ ?_<;>intro h<;>try exact V1 h)|intro el nX nY|intro el nX|exact T4|refine T5 ?_ ?_|intro ex)<;>try conv=>whnf)
  all_goals first
   |exact A0 rfl (congrArg AV.i (DM hn hz hl (hI.dup hc pZ (iF (by omega) nX h))))
   |exact⟨j+1,⟨by omega,eD hc hJ nX h⟩,by omega,A6 h0⟩
   |(have hjk:j=k:=by omega
     subst hjk
     first
      |exact⟨j+1,hI.step hc pZ (ao hJ) (by unfold FG;split<;>simp<;>omega),by omega,A6 h0⟩
      |exact A0 rfl (congrArg AV.i (DM hn hz hl (hI.bad hc pZ (ao hJ) (by unfold FG;split<;>simp<;>omega)))))
 ·have hs:=hI.done h
  have hg:=Fi hs
  have qW:=H5 cs
  refine B2 (ι:=Nat×Int) (fun x=>⟨[(1,.ref 0 0),(6,.i x.2),(7,.i x.1)],1,[(0,some (.box [.str nm,.sl 2 (cs.map cA)]))]⟩) (fun x=>Dw cs x.1 x.2) (fun x=>cs.length-x.1) (0,-1) ⟨Nat.zero_le _,by simp,by simp⟩ (A6 h0) (fun x hJ=>?_)
  obtain⟨j,l⟩:=x
  have tU:=hJ.1
  have zb:=hJ.2.2
  simp only at hJ tU zb
  repeat'((first|refine A1 (aj _ _ _ nZ) ?_|refine A1 (Ah _ _ _ _ hg nZ (List.getElem?_eq_getElem (i:=j) (by omega))) ?_ |refine S2 ?_|(refine T6 ?_ ?_<;>intro h<;>try exact V1 h)|intro el nX nY|intro el nX|exact T4|refine T5 ?_ ?_|intro ex)<;>try conv=>whnf)
  all_goals first
   |exact⟨(j+1,l),hJ.skip (List.getElem?_eq_getElem (by simp only at *;omega)) h,by simp only at *;omega,A6 h0⟩
   |exact A0 rfl (congrArg AV.i (WS hn hz hl hs (hJ.bad (List.getElem?_eq_getElem (by simp only at *;omega)) (by assumption) ⟨by assumption,by assumption⟩)))
   |exact⟨(j+1,((N8 cs)[j]'(by simp only at *;omega):Int)),hJ.next (List.getElem?_eq_getElem (by simp only at *;omega)) (by assumption) (by simp only at *;omega),by simp only at *;omega,A6 h0⟩
   |exact A0 rfl (congrArg AV.i (am hn hz hl hs (hJ.done (by simp only at *;omega))))
theorem I2{nm:List UInt8}{cs:List Code}(h:chk nm cs=0):Good cs∧0<cs.length∧cs.length≤60:=by
 unfold chk at h
 split at h
 ·cases h
 ·split at h
  ·cases h
  ·split at h
   ·cases h
   ·rename_i h1 h2 h3
    cases hs:scan [] cs with
    |some e =>
     rw[hs]at h
     simp only at h
     subst h
     exfalso
     have:∀(cs pre:List Code) e,scan pre cs=some e→e=3∨e=10∨e=6:=by
      intro cs
      induction cs with
      |nil=>intro pre e h;cases h
      |cons a r ih =>
       intro pre e h
       simp only[scan]at h
       split at h
       ·cases h;exact .inl rfl
       ·split at h
        ·cases h;exact .inr (.inl rfl)
        ·split at h
         ·cases h;exact .inr (.inr rfl)
         ·exact ih _ _ h
     have:=this _ _ _ hs
     omega
    |none=>exact⟨Fi hs,by omega,by omega⟩
theorem BG{nm:List UInt8}{cs:List Code}(h:chk nm cs=0):cs.length≤1000000:=by have:=(I2 h).2.2;omega
def Au(ds:List Nat):Nat:=ds.foldl max 0
theorem Su{ds:List Nat}{k x:Nat}(h:ds[k]?=some x):(max (Au (ds.take k):Int) x)=(Au (ds.take (k+1)):Nat):=by
 rw[List.take_add_one,h]
 unfold Au
 rw[List.foldl_append]
 simp only[Option.toList_some,List.foldl_cons,List.foldl_nil]
 omega
theorem eE(ds:List Nat)(hne:0<ds.length)(nZ:ds.length≤1000000):A3 Tryz.prog 225 [.sl 1 (ds.map iA)] (.i (Au ds)):=by
 refine C1 Tryz.func225 25 fun nd E h0=>?_
 repeat'((first|refine S2 ?_|(refine T6 ?_ ?_<;>intro h<;>try exact V1 h)|intro el nX nY|intro el nX|exact T4|refine T5 ?_ ?_|intro ex)<;>try conv=>whnf)
 refine B2 (ι:=Nat) (fun k=>⟨[(0,.sl 1 (ds.map iA)),(3,.i (Au (ds.take k))),(4,.i k)],0,[]⟩) (fun k=>k≤ds.length) (fun k=>ds.length-k) 1 hne (B3 h0 rfl ⟨rfl,congrArg (fun z:Int=>some (AV.i z)) (by
  have:=Su (k:=0) nX
  rw[←this]
  simp[Au]),rfl,trivial⟩ trivial rfl rfl rfl) (fun k hI=>?_)
 repeat'((first|refine S2 ?_|(refine T6 ?_ ?_<;>intro h<;>try exact V1 h)|intro el nX nY|intro el nX|exact T4|refine T5 ?_ ?_|intro ex)<;>try conv=>whnf)
 all_goals first
  |exact⟨k+1,by omega,by omega,B3 h0 rfl ⟨rfl,congrArg (fun z:Int=>some (AV.i z)) (Su nX),rfl,trivial⟩ trivial rfl rfl rfl⟩
  |(refine A0 rfl (congrArg (fun z:Nat=>AV.i (z:Int)) ?_)
    rw[show k=ds.length by omega,List.take_length])
def hasB(nm:List UInt8)(cs:List Code)(code:Int):Bool:=decide (0≤code) && decide (code<cs.length) && decide (chk nm cs=0)
theorem Sv(nm:List UInt8)(cs:List Code)(code:Int)(nZ:cs.length≤9223372036854775807):A3 Tryz.prog 227 [lA nm cs,.i code] (.b (hasB nm cs code)):=by
 refine C1 Tryz.func227 19 fun nd E h0=>?_
 repeat'((first|refine A1 (EV _ _ nZ) ?_ |refine S2 ?_|(refine T6 ?_ ?_<;>intro h<;>try exact V1 h)|intro el nX nY|intro el nX|exact T4|refine T5 ?_ ?_|intro ex)<;>try conv=>whnf)
 all_goals first
  |exact A0 rfl (congrArg AV.b (by simp[hasB, *]))
def C4(nm:List UInt8)(cs:List Code):Int:=if chk nm cs=0 then (Au (N8 cs):Int)+1 else -1
theorem Lo{cs:List Code}(hb:FF cs):Au (N8 cs)≤cs.length:=by
 have:∀(ds:List Nat) (m a:Nat),(∀d∈ds,d≤m)→a≤m→ds.foldl max a≤m:=by
  intro ds
  induction ds with
  |nil=>intro m a _ h;exact h
  |cons d r ih=>intro m a h ha;exact ih m _ (fun x hx=>h x (by simp[hx])) (by have:=h d (by simp);omega)
 refine this _ _ _ (fun d hd=>?_) (Nat.zero_le _)
 obtain⟨i,hi,rfl⟩:=List.getElem_of_mem hd
 have h1:=KG hb i _ (List.getElem?_eq_getElem hi)
 have h2:=H5 cs
 omega
theorem Dd(nm:List UInt8)(cs:List Code)(nZ:cs.length≤9223372036854775807):A3 Tryz.prog 183 [lA nm cs] (.i (C4 nm cs)):=by
 have qW:=H5 cs
 have vf:=fun h=>And.intro (Lo (cs:=cs) (I2 (nm:=nm) h).1.before) (I2 (nm:=nm) (cs:=cs) h).2.2
 refine C1 Tryz.func183 10 fun nd E h0=>?_
 repeat'((first|refine A1 (EV _ _ nZ) ?_|refine A1 (BE _ _ (I2 (by simpa using h)).1.before (BG (nm:=nm) (by simpa using h))) ?_|refine A1 (eE _ (by have:=I2 (nm:=nm) (cs:=cs) (by simpa using h);omega) (by have:=BG (nm:=nm) (cs:=cs) (by simpa using h);omega)) ?_|(refine J0 ?_ ?_;(have:=vf (by simpa using h);omega)) |refine S2 ?_|(refine T6 ?_ ?_<;>intro h<;>try exact V1 h)|intro el nX nY|intro el nX|exact T4|refine T5 ?_ ?_|intro ex)<;>try conv=>whnf)
 all_goals first
  |exact A0 rfl (congrArg AV.i (by simp[C4,h]))
  |exact A0 rfl (congrArg AV.i (by have h:chk nm cs=0:=by simpa using h
                                   simp[C4,h]))
theorem gM{nm:List UInt8}{cs:List Code}{code:Int}(h:hasB nm cs code=true):cs.length≤1000000:=by
 simp only[hasB,Bool.and_eq_true,decide_eq_true_eq]at h
 exact BG h.2
def S5(nm:List UInt8)(cs:List Code)(code:Int):Int:=if hasB nm cs code=true then ((N8 cs).getD code.toNat 0:Nat)else -1
theorem Bf{nm:List UInt8}{cs:List Code}{code:Int}(h:hasB nm cs code=true):Good cs∧0≤code∧code<cs.length∧cs.length≤60∧chk nm cs=0:=by
 simp only[hasB,Bool.and_eq_true,decide_eq_true_eq]at h
 exact⟨(I2 h.2).1,h.1.1,h.1.2,(I2 h.2).2.2,h.2⟩
def par(cs:List Code)(code:Nat):Nat:=((cs[code]?).map (·.parent.toNat)).getD 0
def QB(cs:List Code)(code:Nat):Nat→Nat
 |0=>code
 |s+1=>QB cs (par cs code) s
def dep(cs:List Code)(code:Nat):Nat:=(N8 cs).getD code 0
def N3(nm:List UInt8)(cs:List Code)(code level:Int):Int :=
 if hasB nm cs code=true∧0≤level∧level≤dep cs code.toNat then (QB cs code.toNat (dep cs code.toNat-level.toNat):Int)else -1
theorem Bx{cs:List Code}{j d:Nat}(h:(N8 cs)[j]?=some d):dep cs j=d:=by rw[dep,List.getD_eq_getElem?_getD,h];rfl
theorem BH{cs:List Code}{j:Nat}(h:j<cs.length):(N8 cs)[j]?=some (dep cs j):=by
 have h2:j<(N8 cs).length:=by rw[H5];exact h
 rw[dep,List.getD_eq_getElem?_getD,List.getElem?_eq_getElem h2];rfl
theorem Og{cs:List Code}(hb:FF cs){j:Nat}{c:Code}(hc:cs[j]?=some c)(hj:0<j):dep cs j=dep cs (par cs j)+1∧par cs j<j∧(par cs j:Int)=c.parent:=by
 obtain⟨h1,h2⟩:=hb j c hc hj
 have hp:par cs j=c.parent.toNat:=by rw[par,hc];rfl
 have h3:=Bd hb hc
 rw[if_neg (by omega)]at h3
 have:=Bx h3
 rw[hp]
 exact⟨this,by omega,by omega⟩
theorem Sw{cs:List Code}(hb:FF cs){c:Code}(hc:cs[0]?=some c):dep cs 0=0:=by
 have h3:=Bd hb hc
 rw[if_pos rfl]at h3
 exact Bx h3
theorem KI(nm:List UInt8)(cs:List Code)(code level:Int)(nZ:cs.length≤9223372036854775807):A3 Tryz.prog 199 [lA nm cs,.i code,.i level] (.i (N3 nm cs code level)):=by
 have qW:=H5 cs
 refine C1 Tryz.func199 36 fun nd E h0=>?_
 repeat'((first|refine A1 (Sv _ _ _ nZ) ?_|refine A1 (BE _ _ (Bf (by assumption)).1.before (gM (by assumption))) ?_|(refine m9 ?_ ?_ (fun el nX=>?_);(have:=Bf (by assumption);omega);(have:=Bf (by assumption);omega)) |refine S2 ?_|(refine T6 ?_ ?_<;>intro h<;>try exact V1 h)|intro el nX nY|intro el nX|exact T4|refine T5 ?_ ?_|intro ex)<;>try conv=>whnf)
 case refine_2=>exact A0 rfl (congrArg AV.i (by rw[N3,if_neg (fun hx=>by rw[h]at hx;cases hx.1)]))
 case refine_1.refine_1=>exact A0 rfl (congrArg AV.i (by rw[N3,if_neg (fun hx=>by omega)]))
 rename_i hh
 obtain⟨hg,qt,hcn,hn60,_⟩:=Bf hh
 have hb:=hg.before
 have hd0:dep cs code.toNat=el:=Bx nX
 have ru:=h
 clear h
 have rm:N3 nm cs code level=if level≤dep cs code.toNat then (QB cs code.toNat (dep cs code.toNat-level.toNat):Int)else -1:=by
  unfold N3
  by_cases hx:level≤dep cs code.toNat
  ·rw[if_pos ⟨hh,by omega,hx⟩,if_pos hx]
  ·rw[if_neg (fun h=>hx h.2.2),if_neg hx]
 rw[rm]
 refine B2 (ι:=Nat) (fun c=>⟨[(1,.i c),(2,.i level),(3,.ref 0 0),(7,.i (dep cs c))],1,[(0,some (.box [.str nm,.sl 2 (cs.map cA)]))]⟩)
  (fun c=>c<cs.length∧((level≤dep cs code.toNat∧level≤dep cs c∧QB cs code.toNat (dep cs code.toNat-level.toNat)=QB cs c (dep cs c-level.toNat))∨(¬level≤dep cs code.toNat∧c=code.toNat))) (fun c=>c) code.toNat
  ⟨by omega,by by_cases hx:level≤dep cs code.toNat<;>simp[hx]⟩ (B3 h0 rfl ⟨congrArg (fun z=>some (AV.i z)) (Int.toNat_of_nonneg qt).symm,rfl,rfl,congrArg (fun z:Nat=>some (AV.i (z:Int))) hd0.symm,trivial⟩ ⟨rfl,trivial⟩ rfl rfl rfl) (fun c hI=>?_)
 obtain⟨nz,hI⟩:=hI
 have hdc:=KG hb c _ (BH nz)
 repeat'((first|refine S2 ?_|(refine T6 ?_ ?_<;>intro h<;>try exact V1 h)|intro el nX nY|intro el nX|exact T4|refine T5 ?_ ?_|intro ex)<;>try conv=>whnf)
 ·refine A0 rfl (congrArg AV.i ?_)
  rcases hI with ⟨h1,h2,h3⟩|⟨h1,h2⟩
  ·rw[if_pos h1,h3,show dep cs c-level.toNat=0 by omega];rfl
  ·subst h2;omega
 ·rename_i nf _
  rcases hI with ⟨h1,h2,h3⟩|⟨h1,h2⟩
  ·have vo:0<c:=by
    rcases Nat.eq_zero_or_pos c with e|e
    ·subst e;rw[Sw hb nX]at *;omega
    ·exact e
   obtain⟨e1,e2,e3⟩:=Og hb nX vo
   have e4:dep cs c-level.toNat=(dep cs (par cs c)-level.toNat)+1:=by omega
   refine⟨par cs c,⟨by omega,.inl ⟨h1,by omega,by rw[h3,e4];rfl⟩⟩,e2,B3 h0 rfl ⟨congrArg (fun z:Int=>some (AV.i z)) e3.symm,rfl,rfl,congrArg (fun z:Int=>some (AV.i z)) (by omega),trivial⟩ ⟨rfl,trivial⟩ rfl rfl rfl⟩
  ·subst h2;omega
 ·refine A0 rfl (congrArg AV.i ?_)
  rcases hI with ⟨h1,h2,h3⟩|⟨h1,h2⟩
  ·omega
  ·rw[if_neg h1]
def M6(nm:List UInt8)(cs:List Code)(code nw:Int):Bool:=hasB nm cs code && hasB nm cs nw && decide (N3 nm cs code (dep cs nw.toNat)=nw)
theorem YF(nm:List UInt8)(cs:List Code)(code nw:Int)(nZ:cs.length≤9223372036854775807):A3 Tryz.prog 242 [lA nm cs,.i code,.i nw] (.b (M6 nm cs code nw)):=by
 have qW:=H5 cs
 refine C1 Tryz.func242 27 fun nd E h0=>?_
 repeat'((first|refine A1 (Sv _ _ _ nZ) ?_|refine A1 (KI _ _ _ _ nZ) ?_|refine A1 (BE _ _ (Bf (by assumption)).1.before (gM (by assumption))) ?_|(refine m9 ?_ ?_ (fun el nX=>?_);(have:=Bf h;omega);(have:=Bf h;omega))|(refine B5 ?_ ?_;kernel_rfl) |refine S2 ?_|(refine T6 ?_ ?_<;>intro h<;>try exact V1 h)|intro el nX nY|intro el nX|exact T4|refine T5 ?_ ?_|intro ex)<;>try conv=>whnf)
 all_goals first
  |(refine A0 rfl (congrArg AV.b ?_);(simp only[M6, *,Bx nX,Bool.true_and];done))
  |(refine A0 rfl (congrArg AV.b ?_);(simp only[M6, *,Bool.false_and,Bool.and_false,Bool.true_and];done))
def FH(cs:List Code)(level:Int)(k:Nat):List Nat:=(List.range k).filter fun i=>decide ((dep cs i:Int)=level)
theorem JJ(cs:List Code)(level:Int)(k:Nat):(FH cs level k).length≤k:=by
 have:=List.length_filter_le (fun i=>decide ((dep cs i:Int)=level)) (List.range k)
 simpa [FH]using this
theorem KJ{cs:List Code}{level:Int}{k:Nat}(h:(dep cs k:Int)=level):FH cs level (k+1)=FH cs level k++[k]:=by
 simp[FH,List.range_succ,List.filter_append,h]
theorem NS{cs:List Code}{level:Int}{k:Nat}(h:¬(dep cs k:Int)=level):FH cs level (k+1)=FH cs level k:=by
 simp[FH,List.range_succ,List.filter_append,h]
def I5(nm:List UInt8)(cs:List Code)(level:Int):List Nat:=if chk nm cs=0 then FH cs level cs.length else []
theorem Ge(nm:List UInt8)(cs:List Code)(level:Int)(nZ:cs.length≤9223372036854775807):A3 Tryz.prog 108 [lA nm cs,.i level] (.sl 1 ((I5 nm cs level).map iA)):=by
 have qW:=H5 cs
 refine C1 Tryz.func108 28 fun nd E h0=>?_
 repeat'((first|refine A1 (EV _ _ nZ) ?_|refine A1 (BE _ _ (I2 (by simpa using h)).1.before (BG (nm:=nm) (by simpa using h))) ?_ |refine S2 ?_|(refine T6 ?_ ?_<;>intro h<;>try exact V1 h)|intro el nX nY|intro el nX|exact T4|refine T5 ?_ ?_|intro ex)<;>try conv=>whnf)
 case refine_1=>exact x9 (sz:=1) rfl (by rw[I5,if_neg h];rfl)
 have hc:chk nm cs=0:=by simpa using h
 have yk:=BG hc
 rw[I5,if_pos hc]
 refine B2 (ι:=Nat) (fun k=>⟨[(1,.i level),(5,.row 1 0 (FH cs level k).length),(12,.sl 1 ((N8 cs).map iA)),(13,.i (N8 cs).length),(14,.i k)],2,[(1,some (.row 3 1 0 ((FH cs level k).map iA)))]⟩) (fun k=>k≤cs.length) (fun k=>cs.length-k) 0 (Nat.zero_le _) (C2 (K7 (d:=5) (e:=3) (sz:=1) rfl) (B3 h0 rfl ⟨rfl,rfl,rfl,rfl,rfl,trivial⟩ ⟨⟨0,rfl⟩,trivial⟩ rfl rfl rfl)) (fun k hI=>?_)
 have tA:=JJ cs level k
 repeat'((first|(refine J0 ?_ ?_;(intro tO rz u hu;cases rz with|head=>(cases hu with|head=>exact rfl|tail _ h=>cases h)|tail _ h=>cases h))|(refine J0 ?_ ?_;(constructor<;>(simp only[M4,K4,List.length_cons,List.length_nil];omega))) |refine S2 ?_|(refine T6 ?_ ?_<;>intro h<;>try exact V1 h)|intro el nX nY|intro el nX|exact T4|refine T5 ?_ ?_|intro ex)<;>try conv=>whnf)
 ·have hd:(dep cs k:Int)=level:=by rw[Bx nX];exact h
  refine⟨k+1,?_,?_,B3 h0 rfl ⟨rfl,congrArg (fun z=>some (AV.row 1 0 z)) ?_,rfl,rfl,rfl,trivial⟩ ⟨⟨0,congrArg (D3.row 3 1 0) ?_⟩,trivial⟩ rfl rfl rfl⟩
  ·omega
  ·omega
  ·rw[KJ hd,List.length_append];rfl
  ·rw[KJ hd,List.map_append];rfl
 ·have hd:¬(dep cs k:Int)=level:=by rw[Bx nX];exact h
  refine⟨k+1,?_,?_,B3 h0 rfl ⟨rfl,congrArg (fun z=>some (AV.row 1 0 z)) ?_,rfl,rfl,rfl,trivial⟩ ⟨⟨0,congrArg (D3.row 3 1 0) ?_⟩,trivial⟩ rfl rfl rfl⟩
  ·omega
  ·omega
  ·rw[NS hd]
  ·rw[NS hd]
 ·apply A0
  ·rfl
  ·rw[show cs.length=k by omega]
   rfl
end Go.Proofs.YtiphlhoclaogjaaGreatDoor
namespace Go.Proofs.YtiphlhoclaogjaaGreatDoor
open Go Go.Av
set_option maxRecDepth 100000
def nR(n:Int):Prop:=-9223372036854775808≤n∧n≤9223372036854775807
theorem NT{a:AV}(h:BD Tryz.prog 22 a):∃l:List UInt8,l.length≤maxLen∧a=.sl 1 (l.map N9):=aZ Tryz.underlying22 Tryz.underlying5 (by kernel_rfl) h
theorem mS{a:AV}(h:BD Tryz.prog 3 a):∃n,nR n∧a=.i n:=gz Tryz.underlying3 h
end Go.Proofs.YtiphlhoclaogjaaGreatDoor
