/- Plain lists: the first error, the first place, and what was passed. Chapter 1: names, and what they are. Chapter 1: the levels of codes. Chapter 1: leaves and depths, by the reference. Chapter 1: the check of a list. Chapter 1: the check of a list, by the reference. Chapter 1: levels, ancestors, codes of a level. Chapter 1: ancestors. Chapter 1: what stands below, codes of a level, codes with a name. Chapter 1: the codes of a level, and the example. Code lists that came in. -/
import Derived.Test.YtkcekccdcpmekaaGreatDoorQAvTy
import Derived.Test.YtkcekccdcpmekaaGreatDoorQE3
set_option linter.unusedVariables false
set_option linter.unnecessarySimpa false
set_option linter.unusedSimpArgs false
set_option maxHeartbeats 64000000
namespace Go.Proofs.YtkcekccdcpmekaaGreatDoor
open Go Go.Av
attribute [local irreducible] E8 B5 E5 E1 DQ E7 E9 St.le A4 A9
set_option maxRecDepth 100000
theorem O6{α:Type}{l:List α}{k:Nat}{x:α}(h:l[k]?=some x):l.drop k=x::l.drop (k+1):=by
 obtain⟨h1,h2⟩:=List.getElem?_eq_some_iff.1 h
 rw[List.drop_eq_getElem_cons h1,h2]
theorem GE{α:Type}{l:List α}{k:Nat}{x:α}(h:l[k]?=some x):l.take (k+1)=l.take k++[x]:=by
 rw[List.take_add_one,h];rfl
theorem Bh{α:Type}{l:List α}{k:Nat}(h:¬(k:Int)<l.length):l.drop k=[]:=List.drop_eq_nil_of_le (by omega)
theorem Zu{α:Type}{l:List α}{k:Nat}(h:¬(k:Int)<l.length):l.take k=l:=List.take_of_length_le (by omega)
theorem S8{α:Type}{l:List α}{k:Nat}{x:α}(h:l[k]?=some x):k<l.length:=(List.getElem?_eq_some_iff.1 h).1
def K6{α:Type}(p:α→Bool):List α→Int→Int
 |[],_=>-1
 |x::r,k=>if p x=true then k else K6 p r (k+1)
theorem Ds{α:Type}(p:α→Bool):∀(l:List α) (k:Int),0≤k→decide (0≤K6 p l k)=l.any p
 |[],k,_=>by simp[K6]
 |x::r,k,h=>by
  unfold K6
  by_cases hp:p x=true
  ·rw[if_pos hp];simp[hp,h]
  ·rw[if_neg hp,Ds p r (k+1) (by omega)]
   simp[hp]
theorem Tw{α:Type}(p:α→Bool):∀(l:List α) (k:Int),K6 p l k=-1∨(k≤K6 p l k∧K6 p l k<k+l.length)
 |[],k=>.inl rfl
 |x::r,k=>by
  unfold K6
  by_cases hp:p x=true
  ·rw[if_pos hp];right;simp;omega
  ·rw[if_neg hp]
   rcases Tw p r (k+1)with h|h
   ·exact .inl h
   ·right;simp;omega
def J1{α:Type}(f:Nat→α→Int):Nat→List α→Int
 |_,[]=>0
 |i,x::r=>if f i x=0 then J1 f (i+1) r else f i x
def M6{α:Type}(f:Nat→α→Int)(l:List α)(k:Nat):Prop:=k≤l.length∧J1 f 0 l=J1 f k (l.drop k)∧∀(i:Nat) x,i<k→l[i]?=some x→f i x=0
theorem M6.zero{α:Type}(f:Nat→α→Int)(l:List α):M6 f l 0:=⟨Nat.zero_le _,rfl,fun i x h=>absurd h (Nat.not_lt_zero _)⟩
theorem M6.step{α:Type}{f:Nat→α→Int}{l:List α}{k:Nat}{x:α}(h:M6 f l k)(hx:l[k]?=some x)(h0:f k x=0):M6 f l (k+1):=by
 refine⟨S8 hx,?_,fun i y hi hy=>?_⟩
 ·rw[h.2.1,O6 hx,J1,if_pos h0]
 ·by_cases e:i=k
  ·subst e;rw[hx]at hy;cases hy;exact h0
  ·exact h.2.2 i y (by omega) hy
theorem M6.hit{α:Type}{f:Nat→α→Int}{l:List α}{k:Nat}{x:α}(h:M6 f l k)(hx:l[k]?=some x)(h0:¬f k x=0):f k x=J1 f 0 l:=by
 rw[h.2.1,O6 hx,J1,if_neg h0]
theorem M6.done{α:Type}{f:Nat→α→Int}{l:List α}{k:Nat}(h:M6 f l k)(hk:¬(k:Int)<l.length):J1 f 0 l=0:=by
 rw[h.2.1,Bh hk];rfl
theorem BI{α:Type}{f:Nat→α→Int}:∀{l:List α} {k:Nat},J1 f k l=0→∀(i:Nat) x,l[i]?=some x→f (k+i) x=0
 |[],k,_,i,x,h=>by simp at h
 |y::r,k,h,i,x,hx=>by
  unfold J1 at h
  split at h
  ·cases i with
   |zero=>simp at hx;subst hx;assumption
   |succ i =>
    have:=BI h i x (by simpa using hx)
    rw[show k+(i+1)=k+1+i by omega];exact this
  ·exact absurd h (by assumption)
def o9{α:Type}(p:α→Bool)(l:List α)(k:Nat):Prop:=k≤l.length∧∀x∈l.take k,p x=false
theorem o9.zero{α:Type}(p:α→Bool)(l:List α):o9 p l 0:=⟨Nat.zero_le _,fun x hx=>by simp at hx⟩
theorem o9.step{α:Type}{p:α→Bool}{l:List α}{k:Nat}{x:α}(h:o9 p l k)(hx:l[k]?=some x)(h0:p x=false):o9 p l (k+1):=by
 refine⟨S8 hx,fun y hy=>?_⟩
 rw[GE hx]at hy
 rcases List.mem_append.1 hy with hy|hy
 ·exact h.2 y hy
 ·simp at hy;subst hy;exact h0
theorem o9.hit{α:Type}{p:α→Bool}{l:List α}{k:Nat}{x:α}(h:o9 p l k)(hx:l[k]?=some x)(h0:p x=true):true=l.any p :=
 (List.any_eq_true.2 ⟨x,List.mem_of_getElem? hx,h0⟩).symm
theorem o9.done{α:Type}{p:α→Bool}{l:List α}{k:Nat}(h:o9 p l k)(hk:¬(k:Int)<l.length):false=l.any p:=by
 have:=h.2
 rw[Zu hk]at this
 exact(List.any_eq_false.2 (fun x hx=>by simp[this x hx])).symm
end Go.Proofs.YtkcekccdcpmekaaGreatDoor
namespace Go.Proofs.YtkcekccdcpmekaaGreatDoor
open Go Go.Av
attribute [local irreducible] E8 B5 E5 DQ E7 E9 St.le A4 A9
def DI(c:UInt8):Bool:=decide (97≤c.toNat∧c.toNat≤122∨48≤c.toNat∧c.toNat≤57∨c.toNat=95)
def words:List (List UInt8):=[[97,108,108],[97,110,100],[101,118,101,110,116],[102,114,111,109],[109,105,115,115,105,110,103],[110,111,116],[111,110],[111,114],[116,111],[117,110,100,101,114],[119,104,101,114,101]]
def Ma(l:List UInt8):Bool:=match l with|[]=>false|c::_=>decide (97≤c.toNat∧c.toNat≤122)
def D8(l:List UInt8):Bool:=decide (l.length≤16) && Ma l && l.all DI && !(decide (l∈words))
theorem Kj{l:List UInt8}(h:(l.length:Int)<1):false=D8 l:=by
 have:l=[]:=List.eq_nil_of_length_eq_zero (by omega)
 subst this;rfl
theorem Mb{l:List UInt8}(h:16<(l.length:Int)):false=D8 l:=by
 have:¬l.length≤16:=by omega
 simp[D8,this]
theorem Mc{l:List UInt8}{el:UInt8}(ke:l[Int.toNat 0]?=some el)(h:(el.toNat:Int)<97∨122<(el.toNat:Int)):false=D8 l:=by
 cases l with
 |nil=>rfl
 |cons c r =>
  have:c=el:=by simpa using ke
  subst this
  have:¬(97≤c.toNat∧c.toNat≤122):=by omega
  simp[D8,Ma];omega
theorem Ob{l:List UInt8}{k:Nat}{el:UInt8}(ke:l[k]?=some el)(h:¬(97≤el.toNat∧el.toNat≤122∨48≤el.toNat∧el.toNat≤57∨el.toNat=95)):false=D8 l:=by
 have:l.all DI=false:=by
  rw[List.all_eq_false]
  exact⟨el,List.mem_of_getElem? ke,by simp[DI];omega⟩
 simp[D8,this]
theorem Md{l:List UInt8}(h:l∈words):false=D8 l:=by simp[D8,h]
theorem Me{l:List UInt8}{a b:UInt8}{k:Nat}(h1:¬16<(l.length:Int))(h2:¬(a.toNat:Int)<97)(ha:l[Int.toNat 0]?=some a)(h3:¬122<(b.toNat:Int))(hb:l[Int.toNat 0]?=some b)(h4:∀c∈l.take k,DI c=true)(h5:¬(k:Int)<l.length)(h6:l∉words):true=D8 l:=by
 rw[ha]at hb
 cases hb
 have e:l.take k=l:=List.take_of_length_le (by omega)
 rw[e]at h4
 have:Ma l=true:=by
  cases l with
  |nil=>cases ha
  |cons c r=>cases ha;simp[Ma];omega
 simp[D8,this,h6]
 exact⟨by omega,h4⟩
theorem Tx{l:List UInt8}{k:Nat}{el:UInt8}(hI:∀c∈l.take k,DI c=true)(ke:l[k]?=some el)(h:97≤el.toNat∧el.toNat≤122∨48≤el.toNat∧el.toNat≤57∨el.toNat=95):∀c∈l.take (k+1),DI c=true:=by
 intro c hc
 rw[List.take_add_one,ke]at hc
 rcases List.mem_append.1 hc with hc|hc
 ·exact hI c hc
 ·simp at hc;subst hc;simpa [DI]using h
theorem Cu(l:List UInt8):A4 Tryz.prog 29 [.str l] (.b (D8 l)):=by
 refine D0 Tryz.func29 62 fun ki E h0=>?_
 repeat'((first|refine S2 ?_|(refine T6 ?_ ?_<;>intro h<;>try exact V1 h)|intro el ke kg|intro el ke|exact T4|refine T5 ?_ ?_|intro ex)<;>try conv=>whnf)
 rotate_left
 ·refine D5 (ι:=Nat) (fun k=>⟨[(0,.str l),(24,.sl 1 (l.map fun b=>[.v (.int .u8 b.toNat)])),(25,.i l.length),(26,.i k)],0,[]⟩) (fun k=>∀c∈l.take k,DI c=true) (fun k=>l.length-k) 0 (by simp) (B2 h0) (fun k hI=>?_)
  repeat'((first|refine S2 ?_|(refine T6 ?_ ?_<;>intro h<;>try exact V1 h)|intro el ke kg|intro el ke|exact T4|refine T5 ?_ ?_|intro ex)<;>try conv=>whnf)
  all_goals first
   |exact⟨k+1,Tx hI ke (by omega),by omega,B2 h0⟩
   |(refine A3 rfl (congrArg AV.b ?_);first|exact Ob ke (by omega)|exact Md (by subst h;decide)|exact Me (by assumption) (by assumption) (by assumption) (by assumption) (by assumption) hI (by assumption) (by simp[words, *]))
 all_goals (refine A3 rfl (congrArg AV.b ?_);first|exact Kj h|exact Mb h|exact Mc ke (by omega))
theorem Bx(l:List UInt8):A4 Tryz.prog 74 [.str l] (.b (D8 l)):=by
 refine D0 Tryz.func74 70 fun ki E h0=>?_
 repeat'((first|refine S2 ?_|(refine T6 ?_ ?_<;>intro h<;>try exact V1 h)|intro el ke kg|intro el ke|exact T4|refine T5 ?_ ?_|intro ex)<;>try conv=>whnf)
 rotate_left
 ·refine D5 (ι:=Nat) (fun k=>⟨[(0,.str l),(3,.i k)],0,[]⟩) (fun k=>∀c∈l.take k,DI c=true) (fun k=>l.length-k) 0 (by simp) (B2 h0) (fun k hI=>?_)
  repeat'((first|refine S2 ?_|(refine T6 ?_ ?_<;>intro h<;>try exact V1 h)|intro el ke kg|intro el ke|exact T4|refine T5 ?_ ?_|intro ex)<;>try conv=>whnf)
  all_goals first
   |exact⟨k+1,Tx hI ke (by omega),by omega,B2 h0⟩
   |(refine A3 rfl (congrArg AV.b ?_);first|exact Ob ke (by omega)|exact Md (by subst h;decide)|exact Me (by assumption) (by assumption) (by assumption) (by assumption) (by assumption) hI (by assumption) (by simp[words, *]))
 all_goals first
  |(refine A3 rfl (congrArg AV.b ?_);first|exact Kj h|exact Mb h|exact Mc ke (by omega))
structure Code where
 name:List UInt8
 parent:Int
deriving DecidableEq
abbrev cA(c:Code):List AV:=[.str c.name,.i c.parent]
abbrev iA(d:Nat):List AV:=[.i (d:Int)]
abbrev lA(nm:List UInt8)(cs:List Code):AV:=.agg [.str nm,.sl 2 (cs.map cA)]
def AJ:List Nat→List Code→List Nat
 |out,[]=>out
 |out,c::r=>AJ (out++[if out=[]then 0 else out.getD c.parent.toNat 0+1]) r
def V4(cs:List Code):List Nat:=AJ [] cs
theorem GF:∀(cs:List Code) (out:List Nat),(AJ out cs).length=out.length+cs.length
 |[],out=>rfl
 |c::r,out=>by simp only[AJ,GF r];simp;omega
theorem M9(cs:List Code):(V4 cs).length=cs.length:=by simp[V4,GF]
theorem FW:∀(cs:List Code) (out:List Nat) (j:Nat),j<out.length→(AJ out cs)[j]?=out[j]?
 |[],out,j,_=>rfl
 |c::r,out,j,h=>by
  simp only[AJ]
  rw[FW r _ j (by simp;omega),List.getElem?_append_left h]
theorem IK:∀(cs:List Code) (out:List Nat) (k:Nat) (c:Code),cs[k]?=some c→((out++[]=[]∧k=0)∨True) →
  (AJ out cs)[out.length+k]?=some (if out.length+k=0 then 0 else if c.parent.toNat<out.length+k then (AJ out cs).getD c.parent.toNat 0+1 else 1)
 |[],out,k,c,h,_=>by simp at h
 |a::r,out,0,c,h,_=>by
  simp at h
  subst h
  simp only[AJ,Nat.add_zero]
  rw[FW _ _ _ (by simp)]
  simp only[List.getElem?_append_right (Nat.le_refl _),Nat.sub_self,List.getElem?_cons_zero]
  congr 1
  by_cases e:out=[]
  ·subst e;simp
  ·have hl:¬out.length=0:=by simpa using e
   rw[if_neg e,if_neg hl]
   by_cases hp:a.parent.toNat<out.length
   ·rw[if_pos hp,List.getD_eq_getElem?_getD,List.getD_eq_getElem?_getD,FW _ _ _ (by simp;omega),List.getElem?_append_left hp]
   ·rw[if_neg hp,List.getD_eq_getElem?_getD,List.getElem?_eq_none (by omega)]
    rfl
 |a::r,out,k+1,c,h,_=>by
  simp only[AJ]
  have:=IK r (out++[if out=[]then 0 else out.getD a.parent.toNat 0+1]) k c (by simpa using h) (.inr trivial)
  simp only[List.length_append,List.length_cons,List.length_nil]at this
  rw[show out.length+(k+1)=out.length+(0+1)+k by omega]
  exact this
def Gs(cs:List Code):Prop:=∀(i:Nat) c,cs[i]?=some c→0<i→0≤c.parent∧c.parent<i
theorem Dt{cs:List Code}(h:Gs cs){k:Nat}{c:Code}(hc:cs[k]?=some c):(V4 cs)[k]?=some (if k=0 then 0 else (V4 cs).getD c.parent.toNat 0+1):=by
 have h1:=IK cs [] k c hc (.inr trivial)
 simp only[List.length_nil,Nat.zero_add]at h1
 unfold V4
 rw[h1]
 congr 1
 by_cases e:k=0
 ·simp[e]
 ·rw[if_neg e,if_neg e]
  have:=h k c hc (by omega)
  rw[if_pos (by omega)]
def Bi(D:List Nat)(n k:Nat):List Nat:=D.take k++List.replicate (n-k) 0
theorem Kk{D:List Nat}{n k:Nat}(hD:D.length=n)(hk:k≤n):(Bi D n k).length=n:=by simp[Bi,hD];omega
theorem Qp{D:List Nat}{n k i:Nat}(hD:D.length=n)(hk:k≤n)(hi:i<k):(Bi D n k)[i]?=D[i]?:=by
 rw[Bi,List.getElem?_append_left (by simp;omega),List.getElem?_take_of_lt hi]
theorem Zv{D:List Nat}{n k:Nat}{d:Nat}(hD:D.length=n)(hk:k<n)(hd:D[k]?=some d):((Bi D n k).map iA).set k (iA d)=(Bi D n (k+1)).map iA:=by
 have e:n-k=(n-(k+1))+1:=by omega
 have h1:(D.take k).length=k:=by rw[List.length_take];omega
 rw[Bi,e,List.replicate_succ,Bi,List.take_add_one,hd]
 rw[List.map_append,List.map_cons,List.set_append_right _ _ (by rw[List.length_map,h1];exact Nat.le_refl _),List.length_map,h1,Nat.sub_self]
 simp
theorem XW(D:List Nat)(n:Nat):(Bi D n 0).map iA=List.replicate n (iA 0):=by simp[Bi]
theorem XX{D:List Nat}{n:Nat}(hD:D.length=n):Bi D n n=D:=by simp[Bi,←hD]
theorem XY{D:List Nat}{n k:Nat}(hD:D.length=n)(hk:k<n)(hd:D[k]?=some 0):Bi D n k=Bi D n (k+1):=by
 have e:n-k=(n-(k+1))+1:=by omega
 rw[Bi,e,List.replicate_succ,Bi,List.take_add_one,hd]
 simp
theorem NW{cs:List Code}(h:Gs cs):∀(j d:Nat),(V4 cs)[j]?=some d→d≤j:=by
 intro j
 induction j using Nat.strongRecOn with
 |_ j ih =>
  intro d hd
  have kj:j<cs.length:=by rw[←M9 cs];exact(List.getElem?_eq_some_iff.1 hd).1
  have hc:=List.getElem?_eq_getElem kj
  rw[Dt h hc]at hd
  by_cases e:j=0
  ·simp[e]at hd;omega
  ·rw[if_neg e]at hd
   obtain⟨h1,h2⟩:=h j _ hc (by omega)
   have hp:(cs[j].parent).toNat<j:=by omega
   have nZ:(cs[j].parent).toNat<(V4 cs).length:=by rw[M9];omega
   have:=ih _ hp _ (List.getElem?_eq_getElem nZ)
   rw[List.getD_eq_getElem?_getD,List.getElem?_eq_getElem nZ]at hd
   simp at hd
   omega
theorem Kl(nm:List UInt8)(cs:List Code)(hb:Gs cs)(kf:cs.length≤1000000):A4 Tryz.prog 101 [lA nm cs] (.sl 1 ((V4 cs).map iA)):=by
 have hD:=M9 cs
 refine D0 Tryz.func101 31 fun ki E h0=>?_
 repeat'((first|refine S2 ?_|(refine T6 ?_ ?_<;>intro h<;>try exact V1 h)|intro el ke kg|intro el ke|exact T4|refine T5 ?_ ?_|intro ex)<;>try conv=>whnf)
 refine D5 (ι:=Nat) (fun k=>⟨[(1,.ref 0 0),(3,.row 1 0 cs.length),(11,.sl 2 (cs.map cA)),(12,.i cs.length),(13,.i k)],2,[(0,some (.box [.str nm,.sl 2 (cs.map cA)])),(1,some (.row 3 1 0 ((Bi (V4 cs) cs.length k).map iA)))]⟩) (fun k=>k≤cs.length) (fun k=>cs.length-k) 0 (Nat.zero_le _) (B0 h0 rfl ⟨rfl,rfl,rfl,rfl,rfl,trivial⟩ ⟨rfl,⟨0,by rw[XW];rfl⟩,trivial⟩ rfl rfl rfl) (fun k hI=>?_)
 repeat'((first|(refine E0 ?_ ?_;(have:=hb k el ke (by omega);omega))|(refine Be ?_ (fun x hx=>?_);(rw[Kk hD hI];have:=hb k el ke (by omega);omega))|(refine E0 ?_ ?_;(have h5:=hb k el ke (by omega);have h6:=NW hb el.parent.toNat x (by rw[←Qp hD hI (by omega)];exact hx);omega))|(refine Be ?_ (fun y hy=>?_);(rw[Kk hD hI];omega)) |refine S2 ?_|(refine T6 ?_ ?_<;>intro h<;>try exact V1 h)|intro el ke kg|intro el ke|exact T4|refine T5 ?_ ?_|intro ex)<;>try conv=>whnf)
 rotate_left
 ·refine⟨k+1,?_,?_,B0 h0 rfl ⟨rfl,rfl,rfl,rfl,rfl,trivial⟩ ⟨rfl,⟨0,?_⟩,trivial⟩ rfl rfl rfl⟩
  ·omega
  ·omega
  ·have nf:k=0:=by omega
   exact congrArg (fun l=>G1.row 3 1 0 (l.map iA)) (XY (k:=k) hD (by omega) (by rw[Dt hb ke,if_pos nf])).symm
 ·apply A3
  ·rfl
  ·have e:k=cs.length:=by omega
   subst e
   exact congrArg (fun l=>AV.sl 1 (l.map iA)) (XX hD)
 ·rename_i _ z hz
  refine⟨k+1,?_,?_,B0 h0 rfl ⟨rfl,rfl,rfl,rfl,rfl,trivial⟩ ⟨rfl,⟨0,congrArg (G1.row 3 1 0) (Zv hD ?_ ?_).symm⟩,trivial⟩ rfl rfl rfl⟩
  ·omega
  ·omega
  ·omega
  ·have h5:=hb k el ke (by omega)
   rw[Qp hD hI (by omega)]at hz
   rw[Dt hb ke,if_neg (by omega),List.getD_eq_getElem?_getD,hz]
   rfl
def z6(cs:List Code)(code:Int):Bool:=cs.all fun c=>decide (c.parent≠code)
theorem Qq{α:Type}{l:List α}{p:α→Prop}{k:Nat}{el:α}(hI:∀c∈l.take k,p c)(ke:l[k]?=some el)(h:p el):∀c∈l.take (k+1),p c:=by
 intro c hc
 rw[List.take_add_one,ke]at hc
 rcases List.mem_append.1 hc with hc|hc
 ·exact hI c hc
 ·simp at hc;subst hc;exact h
theorem db{cs:List Code}{code:Int}{k:Nat}{el:Code}(ke:cs[k]?=some el)(h:el.parent=code):false=z6 cs code:=by
 refine(List.all_eq_false.2 ⟨el,List.mem_of_getElem? ke,by simp[h]⟩).symm
theorem Zw{cs:List Code}{code:Int}{k:Nat}(hI:∀c∈cs.take k,c.parent≠code)(h:¬(k:Int)<cs.length):true=z6 cs code:=by
 have e:cs.take k=cs:=List.take_of_length_le (by omega)
 rw[e]at hI
 exact(List.all_eq_true.2 fun c hc=>by simpa using hI c hc).symm
theorem XZ(nm:List UInt8)(cs:List Code)(code:Int)(kf:cs.length≤9223372036854775807):A4 Tryz.prog 129 [lA nm cs,.i code] (.b (z6 cs code)):=by
 refine D0 Tryz.func129 21 fun ki E h0=>?_
 repeat'((first|refine S2 ?_|(refine T6 ?_ ?_<;>intro h<;>try exact V1 h)|intro el ke kg|intro el ke|exact T4|refine T5 ?_ ?_|intro ex)<;>try conv=>whnf)
 refine D5 (ι:=Nat) (fun k=>⟨[(1,.i code),(2,.ref 0 0),(5,.i k)],1,[(0,some (.box [.str nm,.sl 2 (cs.map cA)]))]⟩) (fun k=>∀c∈cs.take k,c.parent≠code) (fun k=>cs.length-k) 0 (by simp) (B2 h0) (fun k hI=>?_)
 repeat'((first|refine S2 ?_|(refine T6 ?_ ?_<;>intro h<;>try exact V1 h)|intro el ke kg|intro el ke|exact T4|refine T5 ?_ ?_|intro ex)<;>try conv=>whnf)
 all_goals first
  |exact⟨k+1,Qq hI ke h,by omega,B2 h0⟩
  |(refine A3 rfl (congrArg AV.b ?_);first|exact db ke h|exact Zw hI h)
structure Good(cs:List Code):Prop where
 before:Gs cs
 root:∀c,cs[0]?=some c→c.parent=-1
theorem Mf(nm:List UInt8)(cs:List Code)(code d:Nat)(hg:Good cs)(kf:cs.length≤9223372036854775807)(hd:(V4 cs)[code]?=some d):A4 Tryz.prog 130 [lA nm cs,.i code] (.i d):=by
 have hb:=hg.before
 have mK:=NW hb
 have ku:code<cs.length:=by rw[←M9 cs];exact(List.getElem?_eq_some_iff.1 hd).1
 refine D0 Tryz.func130 22 fun ki E h0=>?_
 repeat'((first|refine S2 ?_|(refine T6 ?_ ?_<;>intro h<;>try exact V1 h)|intro el ke kg|intro el ke|exact T4|refine T5 ?_ ?_|intro ex)<;>try conv=>whnf)
 refine D5 (ι:=Nat×Nat) (fun x=>⟨[(1,.i x.1),(2,.ref 0 0),(5,.i x.2)],1,[(0,some (.box [.str nm,.sl 2 (cs.map cA)]))]⟩) (fun x=>x.1≤code∧(V4 cs)[x.1]?.map (·+x.2)=some d) (fun x=>x.1) (code,0) ⟨Nat.le_refl _,by simp[hd]⟩ (B2 h0) (fun x hI=>?_)
 obtain⟨j,m⟩:=x
 obtain⟨hj,hI⟩:=hI
 rw[Option.map_eq_some_iff]at hI
 obtain⟨dj,uR,pF⟩:=hI
 have hdjl:=mK _ _ hd
 simp only at hj uR pF
 repeat'((first|refine S2 ?_|(refine T6 ?_ ?_<;>intro h<;>try exact V1 h)|intro el ke kg|intro el ke|exact T4|refine T5 ?_ ?_|intro ex)<;>try conv=>whnf)
 ·have mH:cs[j]?=some el:=ke
  have mc:0<j:=by
   rcases Nat.eq_zero_or_pos j with e|e
   ·subst e;have:=hg.root el mH;omega
   ·exact e
  obtain⟨h1,h2⟩:=hb j el mH mc
  have h3:=Dt hb mH
  rw[uR,if_neg (by omega)]at h3
  have hp:el.parent.toNat<(V4 cs).length:=by rw[M9];omega
  rw[List.getD_eq_getElem?_getD,List.getElem?_eq_getElem hp]at h3
  simp at h3
  refine⟨(el.parent.toNat,m+1),⟨?_,?_⟩,?_,B0 h0 rfl ⟨congrArg (fun z=>some (AV.i z)) (Int.toNat_of_nonneg h1).symm,rfl,rfl,trivial⟩ ⟨rfl,trivial⟩ rfl rfl rfl⟩
  ·simp only;omega
  ·simp only[List.getElem?_eq_getElem hp,Option.map_some]
   congr 1
   omega
  ·simp only;omega
 ·refine A3 rfl (congrArg (fun z:Nat=>AV.i (z:Int)) ?_)
  have mH:cs[j]?=some el:=ke
  have mc:j=0:=by
   rcases Nat.eq_zero_or_pos j with e|e
   ·exact e
   ·have:=hb j el mH e;omega
  subst mc
  rw[Dt hb mH,if_pos rfl]at uR
  cases uR
  omega
def FX(i:Nat)(p:Int):Bool:=if i=0 then decide (p≠-1)else decide (p<0∨(i:Int)≤p)
def scan:List Code→List Code→Option Int
 |_,[]=>none
 |pre,c::r=>if D8 c.name=false then some 3 else if c.name∈pre.map (·.name)then some 10 else if FX pre.length c.parent=true then some 6 else scan (pre++[c]) r
def lv:Int→List (Bool×Nat)→Bool
 |_,[]=>true
 |l,(lf,d)::r=>if lf=true then (if 0≤l∧(d:Int)≠l then false else lv d r)else lv l r
def BV(cs:List Code):List (Bool×Nat):=(List.range cs.length).map fun (i:Nat)=>(z6 cs i,(V4 cs).getD i 0)
def chk(nm:List UInt8)(cs:List Code):Int :=
 if D8 nm=false then 3 else if cs.length=0 then 5 else if 60<cs.length then 1 else match scan [] cs with
 |some e=>e
 |none=>if lv (-1) (BV cs)=true then 0 else 5
theorem Qr{nm:List UInt8}{cs:List Code}(h:D8 nm=false):3=chk nm cs:=by simp[chk,h]
theorem Ty{nm:List UInt8}{cs:List Code}(h:D8 nm=true)(h2:(cs.length:Int)=0):5=chk nm cs:=by
 have:cs.length=0:=by omega
 simp[chk,h,this]
theorem Qs{nm:List UInt8}{cs:List Code}(h:D8 nm=true)(h3:(60:Int)<cs.length):1=chk nm cs:=by
 have h1:¬cs.length=0:=by omega
 have h2:60<cs.length:=by omega
 simp only[chk,h,h1,h2,if_true,if_false,Bool.true_eq_false]
theorem Du{nm:List UInt8}{cs:List Code}{e:Int}(h:D8 nm=true)(h1:¬(cs.length:Int)=0)(h2:¬(60:Int)<cs.length)(h3:scan [] cs=some e):e=chk nm cs:=by
 have h1:¬cs.length=0:=by omega
 have h2:¬60<cs.length:=by omega
 simp only[chk,h,h1,h2,if_false,Bool.true_eq_false,h3]
theorem Xa{nm:List UInt8}{cs:List Code}{b:Bool}(h:D8 nm=true)(h1:¬(cs.length:Int)=0)(h2:¬(60:Int)<cs.length)(h3:scan [] cs=none)(h4:lv (-1) (BV cs)=b):(if b=true then 0 else 5:Int)=chk nm cs:=by
 have h1:¬cs.length=0:=by omega
 have h2:¬60<cs.length:=by omega
 simp only[chk,h,h1,h2,if_false,Bool.true_eq_false,h3,h4]
theorem Z8{α:Type}{l:List α}{k:Nat}{x:α}(h:l[k]?=some x):l.drop k=x::l.drop (k+1):=by
 obtain⟨h1,h2⟩:=List.getElem?_eq_some_iff.1 h
 rw[List.drop_eq_getElem_cons h1,h2]
theorem Oc{α:Type}{l:List α}{k:Nat}{x:α}(h:l[k]?=some x):l.take (k+1)=l.take k++[x]:=by
 rw[List.take_add_one,h];rfl
def Aj(cs:List Code)(k:Nat):Prop:=k≤cs.length∧scan [] cs=scan (cs.take k) (cs.drop k)
theorem Aj.step{cs:List Code}{k:Nat}{c:Code}(h:Aj cs k)(hc:cs[k]?=some c)(h1:D8 c.name=true)(h2:c.name∉(cs.take k).map (·.name))(h3:FX k c.parent=false):Aj cs (k+1):=by
 have kj:=(List.getElem?_eq_some_iff.1 hc).1
 refine⟨kj,?_⟩
 have hl:(cs.take k).length=k:=by rw[List.length_take];omega
 rw[h.2,Z8 hc,Oc hc]
 simp only[scan,h1,h2,hl,h3,Bool.true_eq_false,if_false,Bool.false_eq_true]
theorem Aj.name{cs:List Code}{k:Nat}{c:Code}(h:Aj cs k)(hc:cs[k]?=some c)(h1:D8 c.name=false):scan [] cs=some 3:=by
 rw[h.2,Z8 hc];simp only[scan,h1,if_true]
theorem Aj.dup{cs:List Code}{k:Nat}{c:Code}(h:Aj cs k)(hc:cs[k]?=some c)(h1:D8 c.name=true)(h2:c.name∈(cs.take k).map (·.name)):scan [] cs=some 10:=by
 rw[h.2,Z8 hc];simp only[scan,h1,h2,if_true,Bool.true_eq_false,if_false]
theorem Aj.bad{cs:List Code}{k:Nat}{c:Code}(h:Aj cs k)(hc:cs[k]?=some c)(h1:D8 c.name=true)(h2:c.name∉(cs.take k).map (·.name))(h3:FX k c.parent=true):scan [] cs=some 6:=by
 have kj:=(List.getElem?_eq_some_iff.1 hc).1
 have hl:(cs.take k).length=k:=by rw[List.length_take];omega
 rw[h.2,Z8 hc];simp only[scan,h1,h2,hl,h3,if_true,Bool.true_eq_false,if_false]
theorem Aj.done{cs:List Code}{k:Nat}(h:Aj cs k)(hk:¬(k:Int)<cs.length):scan [] cs=none:=by
 have e:k=cs.length:=by have:=h.1;omega
 rw[h.2,e,List.drop_length];rfl
def Jw(cs:List Code)(k:Nat):List (Key×AV):=(cs.take k).map fun c=>(Key.s c.name,AV.b true)
theorem VZ(cs:List Code)(k:Nat):Co .string (Jw cs k):=by
 intro p hp
 obtain⟨c,_,rfl⟩:=List.mem_map.1 hp
 rfl
theorem Zx(l:List Code)(n:List UInt8):DD (l.map fun c=>(Key.s c.name,AV.b true)) (.s n) (w8 (.bool false))=.b (decide (n∈l.map (·.name))):=by
 induction l with
 |nil=>rfl
 |cons a r ih =>
  unfold DD Dm at ih ⊢
  rw[List.map_cons,List.find?_cons]
  by_cases e:a.name=n
  ·subst e;simp
  ·have:¬n=a.name:=fun h=>e h.symm
   simp only[Key.s.injEq,e,decide_false]
   rw[ih]
   simp[this]
theorem Zy(cs:List Code)(k:Nat)(n:List UInt8):DD (Jw cs k) (.s n) (w8 (.bool false))=.b (decide (n∈(cs.take k).map (·.name))):=Zx _ n
theorem Zz(l:List Code)(n:List UInt8)(h:n∉l.map (·.name)):Dn (l.map fun c=>(Key.s c.name,AV.b true)) (.s n) (.b true)=(l.map fun c=>(Key.s c.name,AV.b true))++[(.s n,.b true)]:=by
 induction l with
 |nil=>rfl
 |cons a r ih =>
  simp only[List.map_cons,List.mem_cons,not_or]at h
  have:¬Key.s a.name=Key.s n:=by simp;exact fun e=>h.1 e.symm
  simp only[List.map_cons,Dn,this,if_false,List.cons_append,ih h.2]
theorem Qt{cs:List Code}{k:Nat}{c:Code}(hc:cs[k]?=some c)(h:c.name∉(cs.take k).map (·.name)):Dn (Jw cs k) (.s c.name) (.b true)=Jw cs (k+1):=by
 unfold Jw
 rw[Zz _ _ h,Oc hc,List.map_append]
 rfl
def Df(cs:List Code):Nat→List Bool
 |0=>List.replicate cs.length false
 |k+1=>if k=0 then Df cs k else match cs[k]? with
  |some c=>(Df cs k).set c.parent.toNat true
  |none=>Df cs k
theorem Aq(cs:List Code):∀k,(Df cs k).length=cs.length
 |0=>by simp[Df]
 |k+1=>by
  unfold Df
  split
  ·exact Aq cs k
  ·split
   ·rw[List.length_set];exact Aq cs k
   ·exact Aq cs k
theorem Qu{cs:List Code}{k:Nat}(hk:k=0):Df cs (k+1)=Df cs k:=by simp[Df,hk]
theorem LF{cs:List Code}{k:Nat}{c:Code}(hk:0<k)(hc:cs[k]?=some c):Df cs (k+1)=(Df cs k).set c.parent.toNat true:=by
 have:¬k=0:=by omega
 rw[Df,if_neg this,hc]
theorem LG:∀(cs pre:List Code),scan pre cs=none→∀(i:Nat) c,cs[i]?=some c→FX (pre.length+i) c.parent=false
 |[],pre,_,i,c,hc=>by simp at hc
 |a::r,pre,h,i,c,hc=>by
  simp only[scan]at h
  split at h
  ·cases h
  ·split at h
   ·cases h
   ·split at h
    ·cases h
    ·rename_i h3
     cases i with
     |zero=>simp at hc;subst hc;simpa using h3
     |succ i =>
      have:=LG r (pre++[a]) h i c (by simpa using hc)
      rw[List.length_append,List.length_singleton]at this
      rw[show pre.length+(i+1)=pre.length+1+i by omega]
      exact this
theorem GG{cs:List Code}(h:scan [] cs=none):Good cs:=by
 refine⟨fun i c hc hi=>?_,fun c hc=>?_⟩
 ·have:=LG cs [] h i c hc
  simp[FX,Nat.ne_of_gt hi]at this
  omega
 ·have:=LG cs [] h 0 c hc
  simpa [FX]using this
theorem Tz{nm:List UInt8}{cs:List Code}(h:D8 nm=true)(h1:¬(cs.length:Int)=0)(h2:¬(60:Int)<cs.length)(h3:scan [] cs=none)(h4:lv (-1) (BV cs)=false):5=chk nm cs:=by
 simpa using Xa h h1 h2 h3 h4
theorem Xb{nm:List UInt8}{cs:List Code}(h:D8 nm=true)(h1:¬(cs.length:Int)=0)(h2:¬(60:Int)<cs.length)(h3:scan [] cs=none)(h4:lv (-1) (BV cs)=true):0=chk nm cs:=by
 simpa using Xa h h1 h2 h3 h4
theorem Xd{cs:List Code}(hg:Good cs):∀(k j:Nat),k≤cs.length→j<cs.length→∃b,(Df cs k)[j]?=some b∧(b=true↔∃(i:Nat) (c:Code),0<i∧i<k∧cs[i]?=some c∧c.parent=j)
 |0,j,_,hj=>⟨false,by simp[Df,hj],by simp⟩
 |k+1,j,hk,hj=>by
  obtain⟨b,hb,ih⟩:=Xd hg k j (by omega) hj
  by_cases h0:k=0
  ·subst h0
   refine⟨b,by rw[Qu rfl,hb],ih.trans ⟨?_,?_⟩⟩
   ·rintro ⟨i,c,h1,h2,_⟩;omega
   ·rintro ⟨i,c,h1,h2,_⟩;omega
  ·have hc:cs[k]?=some cs[k]:=List.getElem?_eq_getElem (by omega)
   obtain⟨h1,h2⟩:=hg.before k _ hc (by omega)
   by_cases hp:(cs[k].parent).toNat=j
   ·refine⟨true,?_,fun _=>⟨k,_,by omega,by omega,hc,by omega⟩,fun _=>rfl⟩
    rw[LF (by omega) hc,List.getElem?_set,if_pos hp,if_pos (by rw[Aq];omega)]
   ·refine⟨b,?_,ih.trans ⟨?_,?_⟩⟩
    ·rw[LF (by omega) hc,List.getElem?_set,if_neg hp,hb]
    ·rintro ⟨i,c,g1,g2,g3,g4⟩;exact⟨i,c,g1,by omega,g3,g4⟩
    ·rintro ⟨i,c,g1,g2,g3,g4⟩
     refine⟨i,c,g1,?_,g3,g4⟩
     rcases Nat.lt_or_ge i k with h|h
     ·exact h
     ·have:i=k:=by omega
      subst this
      rw[hc]at g3
      cases g3
      omega
theorem LH{cs:List Code}(hg:Good cs){j:Nat}{x:Bool}(h:(Df cs cs.length)[j]?=some x):z6 cs j=!x:=by
 have hj:j<cs.length:=by rw[←Aq cs cs.length];exact(List.getElem?_eq_some_iff.1 h).1
 obtain⟨b,hb,oz⟩:=Xd hg _ j (Nat.le_refl _) hj
 rw[hb]at h
 cases h
 cases hx:z6 cs j with
 |true =>
  cases x with
  |false=>rfl
  |true =>
   obtain⟨i,c,_,_,h3,h4⟩:=oz.1 rfl
   have:=List.all_eq_true.1 hx c (List.mem_of_getElem? h3)
   simp[h4]at this
 |false =>
  cases x with
  |true=>rfl
  |false =>
   exfalso
   obtain⟨c,hc,he⟩:=List.all_eq_false.1 hx
   obtain⟨i,hi,rfl⟩:=List.getElem_of_mem hc
   have he:cs[i].parent=j:=by simpa using he
   have:(false=true):=oz.2 ⟨i,_,by
    rcases Nat.eq_zero_or_pos i with e|e
    ·subst e
     have:=hg.root _ (List.getElem?_eq_getElem hi)
     omega
    ·exact e,hi,List.getElem?_eq_getElem hi,he⟩
   cases this
theorem FY{cs:List Code}{k d:Nat}(h:(V4 cs)[k]?=some d):(BV cs)[k]?=some (z6 cs k,d):=by
 have hk:k<cs.length:=by rw[←M9 cs];exact(List.getElem?_eq_some_iff.1 h).1
 simp[BV,hk,h]
theorem Qv(cs:List Code):(BV cs).length=cs.length:=by simp[BV]
def Eg(cs:List Code)(k:Nat)(l:Int):Prop:=k≤cs.length∧lv (-1) (BV cs)=lv l ((BV cs).drop k)∧-1≤l
theorem Eg.skip{cs:List Code}{k d:Nat}{l:Int}(h:Eg cs k l)(hd:(V4 cs)[k]?=some d)(hl:z6 cs k=false):Eg cs (k+1) l:=by
 have hk:k<cs.length:=by rw[←M9 cs];exact(List.getElem?_eq_some_iff.1 hd).1
 refine⟨hk,?_,h.2.2⟩
 rw[h.2.1,Z8 (FY hd),hl]
 simp[lv]
theorem Eg.next{cs:List Code}{k d:Nat}{l:Int}(h:Eg cs k l)(hd:(V4 cs)[k]?=some d)(hl:z6 cs k=true)(h2:¬(0≤l∧(d:Int)≠l)):Eg cs (k+1) d:=by
 have hk:k<cs.length:=by rw[←M9 cs];exact(List.getElem?_eq_some_iff.1 hd).1
 refine⟨hk,?_,by omega⟩
 rw[h.2.1,Z8 (FY hd),hl]
 simp only[lv,if_true,if_neg h2]
theorem Eg.bad{cs:List Code}{k d:Nat}{l:Int}(h:Eg cs k l)(hd:(V4 cs)[k]?=some d)(hl:z6 cs k=true)(h2:0≤l∧(d:Int)≠l):lv (-1) (BV cs)=false:=by
 rw[h.2.1,Z8 (FY hd),hl]
 simp only[lv,if_true,if_pos h2]
theorem Eg.done{cs:List Code}{k:Nat}{l:Int}(h:Eg cs k l)(hk:¬(k:Int)<cs.length):lv (-1) (BV cs)=true:=by
 have e:k=(BV cs).length:=by rw[Qv];have:=h.1;omega
 rw[h.2.1,e,List.drop_length];rfl
abbrev bA(b:Bool):List AV:=[.b b]
theorem Hi(nm:List UInt8)(cs:List Code)(kf:cs.length≤9223372036854775807):A4 Tryz.prog 56 [lA nm cs] (.i (chk nm cs)):=by
 refine D0 Tryz.func56 102 fun ki E h0=>?_
 repeat'((first|refine A0 (Cu _) ?_|refine Bg ⟨[(1,.ref 0 0),(2,.i 0),(3,.mp 1),(4,.row 2 0 cs.length)],3,[(0,some (.box [.str nm,.sl 2 (cs.map cA)])),(1,some (.map [])),(2,some (.row 4 1 0 (List.replicate cs.length [.b false])))]⟩ ?_ ?_ |refine S2 ?_|(refine T6 ?_ ?_<;>intro h<;>try exact V1 h)|intro el ke kg|intro el ke|exact T4|refine T5 ?_ ?_|intro ex)<;>try conv=>whnf)
 case refine_1=>exact A3 rfl (congrArg AV.i (Qr h))
 case refine_2.refine_1=>exact A3 rfl (congrArg AV.i (Ty (by assumption) h))
 case refine_2.refine_2.refine_1=>exact A3 rfl (congrArg AV.i (Qs (by assumption) h))
 case refine_2.refine_2.refine_2.refine_2 =>
  rename_i hn hz
  have hl:=h
  clear h
  have tl:cs.length≤1000000:=by omega
  refine D5 (ι:=Nat) (fun k=>⟨[(1,.ref 0 0),(3,.mp 1),(4,.row 2 0 cs.length),(31,.sl 2 (cs.map cA)),(32,.i cs.length),(33,.i k)],3,[(0,some (.box [.str nm,.sl 2 (cs.map cA)])),(1,some (.map (Jw cs k))),(2,some (.row 4 1 0 ((Df cs k).map bA)))]⟩) (fun k=>Aj cs k) (fun k=>cs.length-k) 0 ⟨Nat.zero_le _,by simp⟩ (B0 h0 rfl ⟨rfl,rfl,rfl,rfl,rfl,rfl,trivial⟩ ⟨rfl,rfl,⟨0,by simp[Df]⟩,trivial⟩ rfl rfl rfl) (fun k hI=>?_)
  repeat'((first|refine A0 (Cu _) ?_|refine A0 (Kl _ _ (GG (hI.done (by assumption))).before tl) ?_|(refine E0 ?_ ?_;exact VZ _ _)|refine jJ (Zy _ _ _) ?_|(refine Be ?_ (fun x hx=>?_);(rw[Aq];omega)) |refine S2 ?_|(refine T6 ?_ ?_<;>intro h<;>try exact V1 h)|intro el ke kg|intro el ke|exact T4|refine T5 ?_ ?_|intro ex)<;>try conv=>whnf)
  all_goals first
   |exact A3 rfl (congrArg AV.i (Du hn hz hl (hI.name ke (by assumption))))
   |exact A3 rfl (congrArg AV.i (Du hn hz hl (hI.dup ke (by assumption) (by assumption))))
   |exact A3 rfl (congrArg AV.i (Du hn hz hl (hI.bad ke (by assumption) (by assumption) (by unfold FX;split<;>simp<;>omega))))
   |exact⟨k+1,hI.step ke (by assumption) (by assumption) (by unfold FX;split<;>simp<;>omega),by omega,B0 h0 rfl ⟨rfl,rfl,rfl,rfl,rfl,rfl,trivial⟩ ⟨rfl,congrArg G1.map (Qt ke (by assumption)).symm,⟨0,congrArg (fun l=>G1.row 4 1 0 (l.map bA)) (Qu (by omega))⟩,trivial⟩ rfl rfl rfl⟩
   |exact⟨k+1,hI.step ke (by assumption) (by assumption) (by unfold FX;split<;>simp<;>omega),by omega,B0 h0 rfl ⟨rfl,rfl,rfl,rfl,rfl,rfl,trivial⟩ ⟨rfl,congrArg G1.map (Qt ke (by assumption)).symm,⟨0,congrArg (G1.row 4 1 0) ((congrArg (List.map bA) (LF (by omega) ke)).trans List.map_set)⟩,trivial⟩ rfl rfl rfl⟩
   |skip
  have hs:=hI.done h
  have hg:=GG hs
  have hk:k=cs.length:=by have:=hI.1;omega
  subst hk
  refine D5 (ι:=Nat×Int) (fun x=>⟨[(4,.row 2 0 cs.length),(7,.i x.2),(82,.sl 1 ((V4 cs).map iA)),(83,.i (V4 cs).length),(84,.i x.1)],3,[(2,some (.row 4 1 0 ((Df cs cs.length).map bA)))]⟩) (fun x=>Eg cs x.1 x.2) (fun x=>cs.length-x.1) (0,-1) ⟨Nat.zero_le _,by simp,by simp⟩ (B0 h0 rfl ⟨rfl,rfl,rfl,rfl,rfl,trivial⟩ ⟨⟨0,rfl⟩,trivial⟩ rfl rfl rfl) (fun x hJ=>?_)
  obtain⟨j,l⟩:=x
  have vm:=hJ.1
  have vo:=hJ.2.2
  have mK:=M9 cs
  simp only at hJ vm vo
  repeat'((first|(refine Be ?_ (fun x hx=>?_);(rw[Aq];omega)) |refine S2 ?_|(refine T6 ?_ ?_<;>intro h<;>try exact V1 h)|intro el ke kg|intro el ke|exact T4|refine T5 ?_ ?_|intro ex)<;>try conv=>whnf)
  all_goals first
   |exact⟨(j+1,l),hJ.skip ke (by rw[LH (j:=j) hg hx,h];rfl),by simp only;omega,B0 h0 rfl ⟨rfl,rfl,rfl,rfl,rfl,trivial⟩ ⟨⟨0,rfl⟩,trivial⟩ rfl rfl rfl⟩
   |exact A3 rfl (congrArg AV.i (Tz hn hz hl hs (hJ.bad ke (by rw[LH (j:=j) hg hx];simp[*]) ⟨by assumption,by assumption⟩)))
   |exact⟨(j+1,(el:Int)),hJ.next ke (by rw[LH (j:=j) hg hx];simp[*]) (by simp only at *;omega),by simp only;omega,B0 h0 rfl ⟨rfl,rfl,rfl,rfl,rfl,trivial⟩ ⟨⟨0,rfl⟩,trivial⟩ rfl rfl rfl⟩
   |exact A3 rfl (congrArg AV.i (Xb hn hz hl hs (hJ.done (by simp only at *;omega))))
 all_goals first
  |exact B0 h0 rfl ⟨rfl,rfl,rfl,rfl,trivial⟩ ⟨rfl,rfl,⟨0,rfl⟩,trivial⟩ rfl rfl rfl
  |exact B4 (Gm 1 2 h0 rfl rfl) (B0 h0 rfl ⟨rfl,rfl,rfl,rfl,trivial⟩ ⟨rfl,rfl,⟨0,rfl⟩,trivial⟩ rfl rfl rfl)
theorem aA{cs:List Code}{i k:Nat}{a b:Code}(hi:cs[i]?=some a)(hI:∀c∈cs.take k,c.name≠a.name)(hb:cs[k]?=some b)(h:¬b.name=a.name):∀c∈cs.take (k+1),c.name≠a.name:=Qq hI hb h
theorem dc{cs:List Code}{i k:Nat}{a b:Code}(rX:k<i)(hb:cs[k]?=some b)(h:b.name=a.name):a.name∈(cs.take i).map (·.name) :=
 List.mem_map.2 ⟨b,List.mem_of_getElem? (i:=k) (by rw[List.getElem?_take_of_lt rX];exact hb),h⟩
theorem Xe{cs:List Code}{i:Nat}{a:Code}(hI:∀c∈cs.take i,c.name≠a.name):a.name∉(cs.take i).map (·.name):=by
 intro h
 obtain⟨c,hc,he⟩:=List.mem_map.1 h
 exact hI c hc he
theorem GV(nm:List UInt8)(cs:List Code)(kf:cs.length≤9223372036854775807):A4 Tryz.prog 88 [lA nm cs] (.i (chk nm cs)):=by
 refine D0 Tryz.func88 100 fun ki E h0=>?_
 repeat'((first|refine A0 (Bx _) ?_ |refine S2 ?_|(refine T6 ?_ ?_<;>intro h<;>try exact V1 h)|intro el ke kg|intro el ke|exact T4|refine T5 ?_ ?_|intro ex)<;>try conv=>whnf)
 case refine_1=>exact A3 rfl (congrArg AV.i (Qr h))
 case refine_2.refine_1=>exact A3 rfl (congrArg AV.i (Ty (by assumption) h))
 case refine_2.refine_2.refine_1=>exact A3 rfl (congrArg AV.i (Qs (by assumption) h))
 rename_i hn hz
 have hl:=h
 clear h
 refine D5 (ι:=Nat) (fun k=>⟨[(1,.ref 0 0),(3,.i k)],1,[(0,some (.box [.str nm,.sl 2 (cs.map cA)]))]⟩) (fun k=>Aj cs k) (fun k=>cs.length-k) 0 ⟨Nat.zero_le _,by simp⟩ (B2 h0) (fun k hI=>?_)
 repeat'((first|refine A0 (Bx _) ?_ |refine S2 ?_|(refine T6 ?_ ?_<;>intro h<;>try exact V1 h)|intro el ke kg|intro el ke|exact T4|refine T5 ?_ ?_|intro ex)<;>try conv=>whnf)
 case refine_2.refine_2.refine_2.refine_1.refine_1=>exact A3 rfl (congrArg AV.i (Du hn hz hl (hI.name ke h)))
 ·rename_i hk
  rename Code=>c
  rename cs[k]?=_=>hc
  have lZ:=h
  clear h
  refine D5 (ι:=Nat) (fun j=>⟨[(1,.ref 0 0),(3,.i k),(4,.i j)],1,[(0,some (.box [.str nm,.sl 2 (cs.map cA)]))]⟩) (fun j=>j≤k∧∀a∈cs.take j,a.name≠c.name) (fun j=>k-j) 0 ⟨Nat.zero_le _,by simp⟩ (B2 h0) (fun j hJ=>?_)
  obtain⟨hj,hJ⟩:=hJ
  repeat'((first|(refine I6 ?_ ?_;kernel_rfl) |refine S2 ?_|(refine T6 ?_ ?_<;>intro h<;>try exact V1 h)|intro el ke kg|intro el ke|exact T4|refine T5 ?_ ?_|intro ex)<;>try conv=>whnf)
  all_goals first
   |exact A3 rfl (congrArg AV.i (Du hn hz hl (hI.dup hc lZ (dc (by omega) ke h))))
   |exact⟨j+1,⟨by omega,aA hc hJ ke h⟩,by omega,B2 h0⟩
   |(have xv:j=k:=by omega
     subst xv
     first
      |exact⟨j+1,hI.step hc lZ (Xe hJ) (by unfold FX;split<;>simp<;>omega),by omega,B2 h0⟩
      |exact A3 rfl (congrArg AV.i (Du hn hz hl (hI.bad hc lZ (Xe hJ) (by unfold FX;split<;>simp<;>omega)))))
 ·have hs:=hI.done h
  have hg:=GG hs
  have mK:=M9 cs
  refine D5 (ι:=Nat×Int) (fun x=>⟨[(1,.ref 0 0),(6,.i x.2),(7,.i x.1)],1,[(0,some (.box [.str nm,.sl 2 (cs.map cA)]))]⟩) (fun x=>Eg cs x.1 x.2) (fun x=>cs.length-x.1) (0,-1) ⟨Nat.zero_le _,by simp,by simp⟩ (B2 h0) (fun x hJ=>?_)
  obtain⟨j,l⟩:=x
  have vm:=hJ.1
  have vo:=hJ.2.2
  simp only at hJ vm vo
  repeat'((first|refine A0 (XZ _ _ _ kf) ?_|refine A0 (Mf _ _ _ _ hg kf (List.getElem?_eq_getElem (i:=j) (by omega))) ?_ |refine S2 ?_|(refine T6 ?_ ?_<;>intro h<;>try exact V1 h)|intro el ke kg|intro el ke|exact T4|refine T5 ?_ ?_|intro ex)<;>try conv=>whnf)
  all_goals first
   |exact⟨(j+1,l),hJ.skip (List.getElem?_eq_getElem (by simp only at *;omega)) h,by simp only at *;omega,B2 h0⟩
   |exact A3 rfl (congrArg AV.i (Tz hn hz hl hs (hJ.bad (List.getElem?_eq_getElem (by simp only at *;omega)) (by assumption) ⟨by assumption,by assumption⟩)))
   |exact⟨(j+1,((V4 cs)[j]'(by simp only at *;omega):Int)),hJ.next (List.getElem?_eq_getElem (by simp only at *;omega)) (by assumption) (by simp only at *;omega),by simp only at *;omega,B2 h0⟩
   |exact A3 rfl (congrArg AV.i (Xb hn hz hl hs (hJ.done (by simp only at *;omega))))
theorem AK{nm:List UInt8}{cs:List Code}(h:chk nm cs=0):Good cs∧0<cs.length∧cs.length≤60:=by
 unfold chk at h
 split at h
 ·cases h
 ·split at h
  ·cases h
  ·split at h
   ·cases h
   ·rename_i h1 h2 h3
    cases hs:scan [] cs with
    |some e =>
     rw[hs]at h
     simp only at h
     subst h
     exfalso
     have:∀(cs pre:List Code) e,scan pre cs=some e→e=3∨e=10∨e=6:=by
      intro cs
      induction cs with
      |nil=>intro pre e h;cases h
      |cons a r ih =>
       intro pre e h
       simp only[scan]at h
       split at h
       ·cases h;exact .inl rfl
       ·split at h
        ·cases h;exact .inr (.inl rfl)
        ·split at h
         ·cases h;exact .inr (.inr rfl)
         ·exact ih _ _ h
     have:=this _ _ _ hs
     omega
    |none=>exact⟨GG hs,by omega,by omega⟩
theorem Gt{nm:List UInt8}{cs:List Code}(h:chk nm cs=0):cs.length≤1000000:=by have:=(AK h).2.2;omega
def DJ(ds:List Nat):Nat:=ds.foldl max 0
theorem Qw{ds:List Nat}{k x:Nat}(h:ds[k]?=some x):(max (DJ (ds.take k):Int) x)=(DJ (ds.take (k+1)):Nat):=by
 rw[List.take_add_one,h]
 unfold DJ
 rw[List.foldl_append]
 simp only[Option.toList_some,List.foldl_cons,List.foldl_nil]
 omega
theorem aB(ds:List Nat)(hne:0<ds.length)(kf:ds.length≤1000000):A4 Tryz.prog 190 [.sl 1 (ds.map iA)] (.i (DJ ds)):=by
 refine D0 Tryz.func190 25 fun ki E h0=>?_
 repeat'((first|refine S2 ?_|(refine T6 ?_ ?_<;>intro h<;>try exact V1 h)|intro el ke kg|intro el ke|exact T4|refine T5 ?_ ?_|intro ex)<;>try conv=>whnf)
 refine D5 (ι:=Nat) (fun k=>⟨[(0,.sl 1 (ds.map iA)),(3,.i (DJ (ds.take k))),(4,.i k)],0,[]⟩) (fun k=>k≤ds.length) (fun k=>ds.length-k) 1 hne (B0 h0 rfl ⟨rfl,congrArg (fun z:Int=>some (AV.i z)) (by
  have:=Qw (k:=0) ke
  rw[←this]
  simp[DJ]),rfl,trivial⟩ trivial rfl rfl rfl) (fun k hI=>?_)
 repeat'((first|refine S2 ?_|(refine T6 ?_ ?_<;>intro h<;>try exact V1 h)|intro el ke kg|intro el ke|exact T4|refine T5 ?_ ?_|intro ex)<;>try conv=>whnf)
 all_goals first
  |exact⟨k+1,by omega,by omega,B0 h0 rfl ⟨rfl,congrArg (fun z:Int=>some (AV.i z)) (Qw ke),rfl,trivial⟩ trivial rfl rfl rfl⟩
  |(refine A3 rfl (congrArg (fun z:Nat=>AV.i (z:Int)) ?_)
    rw[show k=ds.length by omega,List.take_length])
def hasB(nm:List UInt8)(cs:List Code)(code:Int):Bool:=decide (0≤code) && decide (code<cs.length) && decide (chk nm cs=0)
def H3(nm:List UInt8)(cs:List Code):Int:=if chk nm cs=0 then (DJ (V4 cs):Int)+1 else -1
theorem LI{cs:List Code}(hb:Gs cs):DJ (V4 cs)≤cs.length:=by
 have:∀(ds:List Nat) (m a:Nat),(∀d∈ds,d≤m)→a≤m→ds.foldl max a≤m:=by
  intro ds
  induction ds with
  |nil=>intro m a _ h;exact h
  |cons d r ih=>intro m a h ha;exact ih m _ (fun x hx=>h x (by simp[hx])) (by have:=h d (by simp);omega)
 refine this _ _ _ (fun d hd=>?_) (Nat.zero_le _)
 obtain⟨i,hi,rfl⟩:=List.getElem_of_mem hd
 have h1:=NW hb i _ (List.getElem?_eq_getElem hi)
 have h2:=M9 cs
 omega
theorem TC(nm:List UInt8)(cs:List Code)(kf:cs.length≤9223372036854775807):A4 Tryz.prog 173 [lA nm cs] (.i (H3 nm cs)):=by
 have mK:=M9 cs
 have uJ:=fun h=>And.intro (LI (cs:=cs) (AK (nm:=nm) h).1.before) (AK (nm:=nm) (cs:=cs) h).2.2
 refine D0 Tryz.func173 10 fun ki E h0=>?_
 repeat'((first|refine A0 (Hi _ _ kf) ?_|refine A0 (Kl _ _ (AK (by simpa using h)).1.before (Gt (nm:=nm) (by simpa using h))) ?_|refine A0 (aB _ (by have:=AK (nm:=nm) (cs:=cs) (by simpa using h);omega) (by have:=Gt (nm:=nm) (cs:=cs) (by simpa using h);omega)) ?_|(refine E0 ?_ ?_;(have:=uJ (by simpa using h);omega)) |refine S2 ?_|(refine T6 ?_ ?_<;>intro h<;>try exact V1 h)|intro el ke kg|intro el ke|exact T4|refine T5 ?_ ?_|intro ex)<;>try conv=>whnf)
 all_goals first
  |exact A3 rfl (congrArg AV.i (by simp[H3,h]))
  |exact A3 rfl (congrArg AV.i (by have h:chk nm cs=0:=by simpa using h
                                   simp[H3,h]))
def par(cs:List Code)(code:Nat):Nat:=((cs[code]?).map (·.parent.toNat)).getD 0
def ji(cs:List Code)(code:Nat):Nat→Nat
 |0=>code
 |s+1=>ji cs (par cs code) s
def dep(cs:List Code)(code:Nat):Nat:=(V4 cs).getD code 0
def CQ(nm:List UInt8)(cs:List Code)(code km:Int):Int :=
 if hasB nm cs code=true∧0≤km∧km≤dep cs code.toNat then (ji cs code.toNat (dep cs code.toNat-km.toNat):Int)else -1
theorem UA{cs:List Code}{j d:Nat}(h:(V4 cs)[j]?=some d):dep cs j=d:=by rw[dep,List.getD_eq_getElem?_getD,h];rfl
theorem Mg{cs:List Code}{j:Nat}(h:j<cs.length):(V4 cs)[j]?=some (dep cs j):=by
 have h2:j<(V4 cs).length:=by rw[M9];exact h
 rw[dep,List.getD_eq_getElem?_getD,List.getElem?_eq_getElem h2];rfl
theorem de{cs:List Code}(hb:Gs cs){j:Nat}{c:Code}(hc:cs[j]?=some c)(hj:0<j):dep cs j=dep cs (par cs j)+1∧par cs j<j∧(par cs j:Int)=c.parent:=by
 obtain⟨h1,h2⟩:=hb j c hc hj
 have hp:par cs j=c.parent.toNat:=by rw[par,hc];rfl
 have h3:=Dt hb hc
 rw[if_neg (by omega)]at h3
 have:=UA h3
 rw[hp]
 exact⟨this,by omega,by omega⟩
def gZ(nm:List UInt8)(cs:List Code)(code pW:Int):Bool:=hasB nm cs code && hasB nm cs pW && decide (CQ nm cs code (dep cs pW.toNat)=pW)
def Va(c:Code)(nm:List UInt8):Bool:=decide (c.name=nm)
theorem Vb(c:Code)(nm:List UInt8):A4 Tryz.prog 202 [.agg (cA c),.iptr [.str nm]] (.b (Va c nm)):=by
 refine D0 Tryz.func202 8 fun ki E h0=>?_
 repeat'((first|refine S2 ?_|(refine T6 ?_ ?_<;>intro h<;>try exact V1 h)|intro el ke kg|intro el ke|exact T4|refine T5 ?_ ?_|intro ex)<;>try conv=>whnf)
 all_goals first
  |exact A3 rfl rfl
def Dv:List Code→List UInt8→Int→Int
 |[],_,_=>-1
 |c::r,nm,k=>if Va c nm=true then k else Dv r nm (k+1)
theorem Vc(cs:List Code)(nm:List UInt8)(kf:cs.length≤9223372036854775807):A4 Tryz.prog 201 [.sl 2 (cs.map cA),.fn 202 [.iptr [.str nm]]] (.i (Dv cs nm 0)):=by
 refine D0 Tryz.func201 19 fun ki E h0=>?_
 repeat'((first|refine S2 ?_|(refine T6 ?_ ?_<;>intro h<;>try exact V1 h)|intro el ke kg|intro el ke|exact T4|refine T5 ?_ ?_|intro ex)<;>try conv=>whnf)
 refine D5 (ι:=Nat) (fun k=>⟨[(0,.sl 2 (cs.map cA)),(1,.fn 202 [.iptr [.str nm]]),(7,.i cs.length),(8,.i k)],0,[]⟩) (fun k=>k≤cs.length∧Dv cs nm 0=Dv (cs.drop k) nm k) (fun k=>cs.length-k) 0 ⟨Nat.zero_le _,rfl⟩ (B2 h0) (fun k hI=>?_)
 obtain⟨hk,hI⟩:=hI
 repeat'((first|refine A0 (Vb _ _) ?_ |refine S2 ?_|(refine T6 ?_ ?_<;>intro h<;>try exact V1 h)|intro el ke kg|intro el ke|exact T4|refine T5 ?_ ?_|intro ex)<;>try conv=>whnf)
 all_goals first
  |exact⟨k+1,⟨by omega,by rw[hI,Z8 ke,Dv,if_neg (by simp[h])];rfl⟩,by omega,B2 h0⟩
  |exact A3 rfl (congrArg AV.i (by rw[hI,Z8 ke,Dv,if_pos (by simp[h])]))
  |exact A3 rfl (congrArg AV.i (by rw[hI,show k=cs.length by omega,List.drop_length];rfl))
def z8(nm:List UInt8)(cs:List Code)(n:List UInt8):Int:=if chk nm cs=0 then Dv cs n 0 else -1
theorem Xf(nm:List UInt8)(cs:List Code)(n:List UInt8)(kf:cs.length≤9223372036854775807):A4 Tryz.prog 192 [lA nm cs,.str n] (.i (z8 nm cs n)):=by
 refine D0 Tryz.func192 12 fun ki E h0=>?_
 repeat'((first|refine A0 (Hi _ _ kf) ?_|refine A0 (Vc _ _ kf) ?_|refine s4 1 ?_ |refine S2 ?_|(refine T6 ?_ ?_<;>intro h<;>try exact V1 h)|intro el ke kg|intro el ke|exact T4|refine T5 ?_ ?_|intro ex)<;>try conv=>whnf)
 all_goals first
  |(refine A3 rfl (congrArg AV.i ?_);(rw[z8,if_neg h];done))
  |(refine A3 rfl (congrArg AV.i ?_);(rw[z8,if_pos (by simpa using h)];done))
def ga(cs:List Code)(km:Int)(k:Nat):List Nat:=(List.range k).filter fun i=>decide ((dep cs i:Int)=km)
theorem gb(cs:List Code)(km:Int)(k:Nat):(ga cs km k).length≤k:=by
 have:=List.length_filter_le (fun i=>decide ((dep cs i:Int)=km)) (List.range k)
 simpa [ga]using this
def Y0(nm:List UInt8)(cs:List Code)(km:Int):List Nat:=if chk nm cs=0 then ga cs km cs.length else []
end Go.Proofs.YtkcekccdcpmekaaGreatDoor
namespace Go.Proofs.YtkcekccdcpmekaaGreatDoor
open Go Go.Av
set_option maxRecDepth 100000
def kX(n:Int):Prop:=-9223372036854775808≤n∧n≤9223372036854775807
theorem gf{a:AV}(h:Ai Tryz.prog 22 a):∃l:List UInt8,l.length≤maxLen∧a=.sl 1 (l.map X9):=XR Tryz.underlying22 Tryz.underlying5 (by kernel_rfl) h
theorem cW{a:AV}(h:Ai Tryz.prog 3 a):∃n,kX n∧a=.i n:=dV Tryz.underlying3 h
theorem jV{a:AV}(h:Ai Tryz.prog 9 a):∃s:List UInt8,s.length≤maxLen∧a=.str s:=dW Tryz.underlying9 h
end Go.Proofs.YtkcekccdcpmekaaGreatDoor
