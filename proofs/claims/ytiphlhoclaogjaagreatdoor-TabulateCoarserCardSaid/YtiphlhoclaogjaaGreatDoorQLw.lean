/- TabulateCoarser: a table by a coarser level is made of the finer one: each of its cells is the sum of those whose codes stand below. -/
import Derived.Test.YtiphlhoclaogjaaGreatDoorQF5
import Derived.Test.YtiphlhoclaogjaaGreatDoorQUb8
import Derived.Test.YtiphlhoclaogjaaGreatDoorQGf3
import Derived.Test.YtiphlhoclaogjaaGreatDoorQB4
import Derived.Test.YtiphlhoclaogjaaGreatDoorQCm2
import Derived.Test.YtiphlhoclaogjaaGreatDoorQTa2
import Derived.Test.YtiphlhoclaogjaaGreatDoorQDr8
import Derived.Test.YtiphlhoclaogjaaGreatDoorQUb2
import Derived.Test.YtiphlhoclaogjaaGreatDoorQRg0
import Derived.Test.YtiphlhoclaogjaaGreatDoorQE3
import Derived.Lib.LaidTab
import Derived.Stop.LaidErr
import Derived.MakeChecks
import Derived.Shelf.Vars
set_option linter.unusedVariables false
set_option linter.unnecessarySimpa false
set_option linter.unusedSimpArgs false
set_option maxHeartbeats 64000000
namespace Go.Proofs.YtiphlhoclaogjaaGreatDoor
open Go Go.Av
attribute [local irreducible] C7 B1 D1 C8 DQ D0 C6 St.le A3 B8
set_option maxRecDepth 100000
theorem PM(l:List UInt8)(lv:Int)(hl:l.length≤maxLen):A3 Tryz.prog 8 [.sl 1 (l.map N9),.i lv] (.b true):=by
 unfold maxLen at hl
 have hL:(l.take 400).length≤400:=List.length_take_le _ _
 have pX:=HX l (by omega)
 generalize l.take 400=t at *
 have tl:=FT t 0 8 hL (by omega) (by omega)
 obtain⟨hd,hX⟩:=Ki t 0 (most:=8) (by omega) (by omega)
 generalize EJ t 0 8=W at *
 obtain⟨⟨s,rows,X⟩,a1⟩:=W
 dsimp only at tl hd hX
 have zu:=QQ t s hd hL 1 a1 (by decide)
 have rJ:=(Hk hd t 1 a1 (by decide)).1
 generalize R1 t s 1 a1=Q at *
 obtain⟨C,a2⟩:=Q
 dsimp only at zu rJ
 have sc:=hd.lens
 have uR:=hd.fin (c:=1) (by omega) (by omega)
 have zW:=X6 s 1
 have uK:=eG lv (A8 s 1+1) (by omega)
 have hmb:=JL (k:=lv) (n:=A8 s 1+1) (by omega)
 generalize JK lv (A8 s 1+1)=a at *
 obtain⟨F,G,t1,e1,t2,e2,⟨pH,oM⟩,tr,rr⟩:=lw hd hX (a:=a) (by omega) (by omega) rJ
 have m1:A3 Tryz.prog 16 [sA s,f4 X,.sl 2 [[.i 1,.i (A8 s 1)]],.i (-1),E0 C] (.tup [.agg [.sl 2 [[.i 1,.i (A8 s 1)]],.i (-1),.sl 7 (F.map L8)],.i 0]):=by
  have:=d6 s X [⟨1,A8 s 1⟩] (-1) C
  rw[t1,e1]at this
  exact this
 have m2:A3 Tryz.prog 16 [sA s,f4 X,.sl 2 [[.i 1,.i a]],.i (-1),E0 C] (.tup [.agg [.sl 2 [[.i 1,.i a]],.i (-1),.sl 7 (G.map L8)],.i 0]):=by
  have:=d6 s X [⟨1,a⟩] (-1) C
  rw[t2,e2]at this
  exact this
 have yj:A3 Tryz.prog 33 [sA s,f4 X] (.i 0):=(Rh s X).congr (congrArg AV.i (Dh hd hX))
 have qr:A3 Tryz.prog 35 [sA s,E0 C] (.i 0):=(t6 s C).congr (congrArg AV.i rJ)
 obtain⟨nm,cs,xC,rK⟩:∃nm cs,s.lists[((0:Int)).toNat]?=some (nm,cs)∧B9 s (B4 s 1)=(nm,cs):=by
  obtain⟨l1,l2,m1,m2,e⟩:=hd.ls
  refine⟨E5,l1,by rw[e];rfl,?_⟩
  unfold B9
  rw[(PU hd).2.1,e]
  rfl
 rw[rK]at rr
 dsimp only at rr
 have hcsl:cs.length≤10:=by
  have:=(hd.lst (c:=Cg) (.inl rfl)).2.2
  have e2:B9 s Cg=B9 s (B4 s 1):=by unfold B9;rw[(PU hd).2.1];rfl
  rw[e2,rK]at this
  exact this
 have wR:=fun x y=>LE nm cs x y (by omega)
 generalize A8 s 1=n at *
 clear t1 e1 t2 e2
 refine C1 Tryz.func8 139 fun nd E h0=>?_
 clear nd
 repeat'((first|refine S8 [] [] pX rfl rfl rfl rfl rfl trivial rfl rfl rfl rfl rfl ?_|refine nc [0] [0] tl rfl rfl rfl ⟨rfl,trivial⟩ ?_|refine nc [0] [0] zu rfl rfl rfl ⟨rfl,trivial⟩ ?_ |refine S2 ?_|(refine T6 ?_ ?_<;>intro h<;>try exact V1 h)|intro el nX nY|intro el nX|exact T4|refine T5 ?_ ?_|intro ex|refine A1 zW ?_|refine A1 uK ?_|refine A1 m1 ?_|refine A1 m2 ?_|refine A1 yj ?_)<;>try conv=>whnf)
 all_goals first
  |(exfalso;omega)
  |skip
 clear pX tl zu m1 m2 yj zW uK
 refine B2 (ι:=Nat) (fun k=>⟨[(8,.iptr (sL s)),(9,.iptr (J2 C)),(12,.iptr [.sl 2 [[.i 1,.i n]],.i (-1),.sl 7 (F.map L8)]),(72,.sl 7 (G.map L8)),(73,.i G.length),(74,.i k)],0,[]⟩) (fun k=>k≤G.length) (fun k=>G.length-k) 0 (Nat.zero_le _)
  (A6 h0) (fun k hk=>?_)
 by_cases no:k<G.length
 ·obtain⟨y,hy⟩:∃y,G[k]?=some y:=⟨_,List.getElem?_eq_getElem no⟩
  have tY:G[((k:Nat):Int).toNat]?=some y:=hy
  obtain⟨hyb,b,hyc,we⟩:=rr k y hy
  have hycl:y.codes.length=1:=by rw[hyc];rfl
  have hy0:y.codes[((0:Int)).toNat]?=some b:=by rw[hyc];rfl
  generalize hSD:(fun z:F1=>if z.codes.headD 0≠-1∧(b=-1∨M6 nm cs (z.codes.headD 0) b=true)then z.cnt else 0)=SF at *
  have zO:=fun k=>cm (f:=SF) (B:=200) (l:=F.take k) fun z hz=>by
   obtain⟨i,hi⟩:=List.getElem?_of_mem (List.mem_of_mem_take hz)
   have:=(tr i z hi).1.cnt
   rw[←hSD]
   dsimp only
   split<;>omega
  have rB:F5 (·+·) SF (F.take 0)=0:=rfl
  have hyb:=hyb.cnt
  clear rr
  repeat'((first|(refine A2 (x:=y) tY (by omega) ?_) |refine S2 ?_|(refine T6 ?_ ?_<;>intro h<;>try exact V1 h)|intro el nX nY|intro el nX|exact T4|refine T5 ?_ ?_|intro ex)<;>try conv=>whnf)
  all_goals first
   |(exfalso;omega)
   |skip
  refine B2 (ι:=Nat) (fun j=>⟨[(8,.iptr (sL s)),(9,.iptr (J2 C)),(12,.iptr [.sl 2 [[.i 1,.i n]],.i (-1),.sl 7 (F.map L8)]),(17,.iptr (L8 y)),(18,.i (F5 (·+·) SF (F.take j))),(72,.sl 7 (G.map L8)),(73,.i G.length),(74,.i k),(79,.sl 7 (F.map L8)),(80,.i F.length),(81,.i j)],0,[]⟩) (fun j=>j≤F.length) (fun j=>F.length-j) 0 (Nat.zero_le _)
   (A6 h0) (fun j hj=>?_)
  have huj:=zO j
  have wI:(F.take j).length≤1331:=by rw[List.length_take];omega
  by_cases re:j<F.length
  ·obtain⟨z,hz⟩:∃z,F[j]?=some z:=⟨_,List.getElem?_eq_getElem re⟩
   have wY:F[((j:Nat):Int).toNat]?=some z:=hz
   obtain⟨hzb,c,um⟩:=tr j z hz
   have hzb:=hzb.cnt
   have hzcl:z.codes.length=1:=by rw[um];rfl
   have wi:z.codes[((0:Int)).toNat]?=some c:=by rw[um];rfl
   have oe:=Vv Y8 SF hz
   have yr:SF z=if c≠-1∧(b=-1∨M6 nm cs c b=true)then z.cnt else 0:=by rw[←hSD];dsimp only;rw[um];rfl
   have hu:=wR c b
   have huv:-266200≤F5 (·+·) SF (F.take j)∧F5 (·+·) SF (F.take j)≤266200:=by omega
   clear huj zO tr
   generalize F5 (·+·) SF (F.take j)=S at *
   generalize M6 nm cs c b=u at *
   by_cases hcond:c≠-1∧(b=-1∨u=true)
   ·rw[if_pos hcond]at yr
    rw[yr]at oe
    obtain⟨k1,k2⟩:=hcond
    by_cases k3:b=-1
    ·repeat'((first|(refine A2 (x:=z) wY (by omega) ?_)|(refine A2 (x:=c) wi (by omega) ?_)|(refine A2 (x:=b) hy0 (by omega) ?_)|(refine B5 ?_ ?_;kernel_rfl) |refine S2 ?_|(refine T6 ?_ ?_<;>intro h<;>try exact V1 h)|intro el nX nY|intro el nX|exact T4|refine T5 ?_ ?_|intro ex)<;>try conv=>whnf)
     all_goals first
      |(exfalso;omega)
      |(refine⟨j+1,by omega,by omega,?_⟩;rw[oe];exact A6 h0)
    ·have k4:u=true:=k2.elim (fun h=>absurd h k3) id
     subst k4
     repeat'((first|(refine A2 (x:=z) wY (by omega) ?_)|(refine A2 (x:=c) wi (by omega) ?_)|(refine A2 (x:=b) hy0 (by omega) ?_)|(refine A2 (x:=(nm,cs)) xC (by omega) ?_)|refine A1 hu ?_|(refine B5 ?_ ?_;kernel_rfl) |refine S2 ?_|(refine T6 ?_ ?_<;>intro h<;>try exact V1 h)|intro el nX nY|intro el nX|exact T4|refine T5 ?_ ?_|intro ex)<;>try conv=>whnf)
     all_goals first
      |(exfalso;omega)
      |(refine⟨j+1,by omega,by omega,?_⟩;rw[oe];exact A6 h0)
   ·rw[if_neg hcond]at yr
    rw[yr,Int.add_zero]at oe
    by_cases k1:c=-1
    ·repeat'((first|(refine A2 (x:=z) wY (by omega) ?_)|(refine A2 (x:=c) wi (by omega) ?_)|(refine B5 ?_ ?_;kernel_rfl) |refine S2 ?_|(refine T6 ?_ ?_<;>intro h<;>try exact V1 h)|intro el nX nY|intro el nX|exact T4|refine T5 ?_ ?_|intro ex)<;>try conv=>whnf)
     all_goals first
      |(exfalso;omega)
      |(refine⟨j+1,by omega,by omega,?_⟩;rw[oe];exact A6 h0)
    ·have k3:¬b=-1:=fun h=>hcond ⟨k1,.inl h⟩
     have k4:u=false:=by
      cases hu:u with
      |false=>rfl
      |true=>exact absurd ⟨k1,.inr hu⟩ hcond
     subst k4
     clear hcond
     repeat'((first|(refine A2 (x:=z) wY (by omega) ?_)|(refine A2 (x:=c) wi (by omega) ?_)|(refine A2 (x:=b) hy0 (by omega) ?_)|(refine A2 (x:=(nm,cs)) xC (by omega) ?_)|refine A1 hu ?_|(refine B5 ?_ ?_;kernel_rfl) |refine S2 ?_|(refine T6 ?_ ?_<;>intro h<;>try exact V1 h)|intro el nX nY|intro el nX|exact T4|refine T5 ?_ ?_|intro ex)<;>try conv=>whnf)
     all_goals first
      |(exfalso;omega)
      |(refine⟨j+1,by omega,by omega,?_⟩;rw[oe];exact A6 h0)
  ·rw[List.take_of_length_le (by omega:F.length≤j),we]
   repeat'((first|refine S2 ?_|(refine T6 ?_ ?_<;>intro h<;>try exact V1 h)|intro el nX nY|intro el nX|exact T4|refine T5 ?_ ?_|intro ex)<;>try conv=>whnf)
   all_goals first
    |(exfalso;omega)
    |exact⟨k+1,by omega,by omega,A6 h0⟩
 ·repeat'((first|refine A1 qr ?_|refine A1 Cw ?_ |refine S2 ?_|(refine T6 ?_ ?_<;>intro h<;>try exact V1 h)|intro el nX nY|intro el nX|exact T4|refine T5 ?_ ?_|intro ex)<;>try conv=>whnf)
  all_goals first
   |(exfalso;omega)
   |exact A0 rfl rfl
theorem PY(l:List AV)(h:DK Tryz.prog Tryz.f8.params.toList l):A3 Tryz.prog 8 l (.b true):=by
 obtain⟨a1,r1,rfl,h1,a2,r2,rfl,h2,rfl⟩:=h
 obtain⟨l,hl,rfl⟩:=NT h1
 obtain⟨b,_,rfl⟩:=mS h2
 exact PM l b hl
end Go.Proofs.YtiphlhoclaogjaaGreatDoor
namespace Go.Av
open Go Go.RowKit
theorem gW{P:Program}{W:World}{n:String}{cs:Array Value}{g:Nat}(hg:P.globalNamed n=some g)(h:W.var? P n=some cs):∃t fr,W.heap[g]?=some (.cells cs t fr):=by
 unfold World.var? at h
 rw[hg]at h
 simp only[Option.bind_some]at h
 split at h
 ·rename_i c t fr he
  cases h
  exact⟨t,fr,he⟩
 ·cases h
theorem a7{P:Program}{W:World}{name:String}{k:IntKind}{zs:List Int}{rest:List (String×DataW Unit)}{g:Nat}{t e:TypeId}{n:Nat}
  (hg:P.globalNamed name=some g) (hty:(P.globals[g]?).map (·.type)=some t) (ht:P.underlying t=some (.array n e)) (he:P.underlying e=some (.int k)) (rJ:P.cellsOf e=1) (hct:P.cellsOf t=n)
  (h:laidMet P ((name,Lib.tabData k zs)::rest) W):∃t fr,W.heap[g]?=some (.cells (zs.map (Value.int k)).toArray t fr):=by
 have h1:=Lib.tabIs_of_head hg hty ht he rJ hct h
 unfold Lib.TabIs at h1
 exact gW hg h1
def PZ(W:World):List (Nat×IntKind×List Int)→Prop
 |[]=>True
 |(g,k,l)::r=>(∃t fr,W.heap[g]?=some (.cells (l.map (Value.int k)).toArray t fr))∧PZ W r
def Qo(W:World):List Nat→Prop
 |[]=>True
 |g::r=>(∃te pe t fr,W.heap[g]?=some (.cells #[.iface te pe] t fr))∧Qo W r
theorem LY{W:World}:∀{T:List (Nat×IntKind×List Int)} {g:Nat} {k:IntKind} {l:List Int},PZ W T→look T g=some (k,l)→∃t fr,W.heap[g]?=some (.cells (l.map (Value.int k)).toArray t fr)
 |[],g,k,l,_,h=>by cases h
 |(g',k',l')::r,g,k,l,h,hg=>by
  rw[E6]at hg
  by_cases e:g'=g
  ·rw[if_pos e]at hg;cases hg;subst e;exact h.1
  ·rw[if_neg e]at hg;exact LY h.2 hg
theorem MP{W:World}:∀{T:List Nat} {g:Nat},Qo W T→g∈T→∃te pe t fr,W.heap[g]?=some (.cells #[.iface te pe] t fr)
 |[],g,_,h=>by cases h
 |g'::r,g,h,hg=>by
  rcases List.mem_cons.1 hg with rfl|hg
  ·exact h.1
  ·exact MP h.2 hg
def Qp(W:World):List Nat→Prop
 |[]=>True
 |g::r=>(∃m t fr,W.heap[g]?=some (.cells #[.int .i64 m] t fr))∧Qp W r
theorem MQ{W:World}:∀{T:List Nat} {g:Nat},Qp W T→g∈T→∃m t fr,W.heap[g]?=some (.cells #[.int .i64 m] t fr)
 |[],g,_,h=>by cases h
 |g'::r,g,h,hg=>by
  rcases List.mem_cons.1 hg with rfl|hg
  ·exact h.1
  ·exact MQ h.2 hg
theorem Jr{W:World}(h1:PZ W Rl)(h2:Qo W kB)(h3:Qp W kC):P3 EI W :=
 ⟨fun g k l h=>⟨fun hu=>hu.elim,LY h1 h⟩,fun g h=>⟨fun hu=>hu.elim,MP h2 h⟩,fun g h=>⟨fun hu=>hu.elim,MQ h3 h⟩⟩
end Go.Av
