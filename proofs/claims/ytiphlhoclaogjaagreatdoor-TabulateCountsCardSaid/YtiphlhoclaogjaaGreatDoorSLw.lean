/- Schemas, rows and picks that came in. Conditions and picks that came in. Picks that came in. -/
import Derived.Test.YtiphlhoclaogjaaGreatDoorSB4
import Derived.Test.YtiphlhoclaogjaaGreatDoorSB8
import Derived.Test.YtiphlhoclaogjaaGreatDoorSCd1
import Derived.Test.YtiphlhoclaogjaaGreatDoorSTc0
import Derived.Test.YtiphlhoclaogjaaGreatDoorSTc3
import Derived.Test.YtiphlhoclaogjaaGreatDoorSUb7
import Derived.Test.YtiphlhoclaogjaaGreatDoorSCe3
import Derived.Test.YtiphlhoclaogjaaGreatDoorSE3
import Derived.Lib.LaidTab
import Derived.Stop.LaidErr
import Derived.MakeChecks
import Derived.Shelf.Vars
set_option linter.unusedVariables false
set_option linter.unnecessarySimpa false
set_option linter.unusedSimpArgs false
set_option maxHeartbeats 64000000
namespace Go.Proofs.YtiphlhoclaogjaaGreatDoor
open Go Go.Av
attribute [local irreducible] C7 B2 D3 C9 DQ D0 C8 St.le A3 B9
set_option maxRecDepth 100000
theorem eH{a:AV}(h:AW Tryz.prog 37 a):∃ws:List Int,ws.length≤maxLen∧a=.sl 1 (ws.map wA):=by
 obtain⟨f2,ls,hl,mA,rfl⟩:=Pr (c:=1) Tryz.underlying37 (by kernel_rfl) h
 obtain⟨ws,rfl,_⟩:=HZ (F:=wA) (R:=ke) (fun x hx=>Od (mA x hx))
 exact⟨ws,by rw[List.length_map]at hl;exact hl,rfl⟩
theorem jv:∀(n f:Nat),f<n→∀{l:List AV},Sh Tryz.prog f 29 l→∃c:B1,l=I6 c:=by
 intro n
 induction n with
 |zero=>intro f hf;omega
 |succ n ih =>
  intro f hf l h
  obtain⟨f',hs,e0⟩:=Zh (ts:=[3,3,3,3,3,27]) Tryz.underlying29 (by kernel_rfl) h
  obtain⟨x1,r1,h1,⟨x2,r2,h2,⟨x3,r3,h3,⟨x4,r4,h4,⟨x5,r5,h5,⟨x6,r6,h6,h7,rfl⟩,rfl⟩,rfl⟩,rfl⟩,rfl⟩,rfl⟩:=hs
  obtain⟨y1,_,rfl⟩:=Od h1
  obtain⟨y2,_,rfl⟩:=Od h2
  obtain⟨y3,_,rfl⟩:=Od h3
  obtain⟨y4,_,rfl⟩:=Od h4
  obtain⟨y5,_,rfl⟩:=Od h5
  obtain⟨f2,ls,_,mA,rfl,e⟩:=SW (c:=6) Tryz.underlying27 (by kernel_rfl) h6
  obtain⟨ks,rfl,_⟩:=HZ (F:=L0) (R:=fun _=>True) (fun x hx=>by
   obtain⟨c,hc⟩:=ih f2 (by omega) (mA x hx)
   exact⟨c,trivial,by rw[hc,Gq]⟩)
  cases h7
  exact⟨.mk y1 y2 y3 y4 y5 ks,rfl⟩
theorem iL{a:AV}(h:AW Tryz.prog 29 a):∃c:B1,a=E0 c:=by
 obtain⟨f,l,rfl,hs⟩:=fT (by kernel_rfl) h
 obtain⟨c,rfl⟩:=jv (f+1) f (by omega) hs
 exact⟨c,rfl⟩
theorem PN(l:List UInt8)(cnd:B1)(cols:List Int)(hl:l.length≤maxLen):A3 Tryz.prog 4 [.sl 1 (l.map N9),E0 cnd,.sl 1 (cols.map wA)] (.b true):=by
 unfold maxLen at hl
 have hL:(l.take 400).length≤400:=List.length_take_le _ _
 have qc:=cj l (by omega)
 generalize l.take 400=t at *
 have yj:=UY t 0 8 hL (by omega) (by omega)
 have hd:E7 (KA t 0 8).1.1:=(Wf t 0 (most:=8) (by omega)).1
 generalize KA t 0 8=W at *
 obtain⟨⟨s,rows,d,X⟩,a1⟩:=W
 dsimp only at yj hd
 have hc:=Fw t s hd hL 2 a1 (by omega)
 generalize o5 t s 2 a1=K at *
 obtain⟨C,a2⟩:=K
 dsimp only at hc
 have hm:=CA t a2 s hd hL
 generalize AL t a2 s 3=Q at *
 obtain⟨m,a3⟩:=Q
 dsimp only at hm
 have pQ:=fun c k=>Jq s X c k
 have sP:=fun c k=>(UL s X c k).congr (congrArg (fun z:List Int=>AV.sl 1 (z.map wA)) (js hd X c k))
 have hi:=fun z:List Int=>(IA z z).congr (congrArg AV.b (decide_eq_true rfl))
 have p1:=pQ C [(m:Int)]
 have q1:=sP C [(m:Int)]
 have p2:=BJ (l':=[sA s,c9 X,E0 C,.v (.slice none 0 0)]) (pQ C []) ⟨.refl _,.refl _,.refl _,.nil 1,trivial⟩
 have q2:=BJ (l':=[sA s,c9 X,E0 C,.v (.slice none 0 0)]) (sP C []) ⟨.refl _,.refl _,.refl _,.nil 1,trivial⟩
 have p3:=pQ cnd cols
 have q3:=sP cnd cols
 have i1:=hi (X8 s X C [(m:Int)])
 have i2:=hi (X8 s X C [])
 have i3:=hi (X8 s X cnd cols)
 generalize X8 s X C [(m:Int)]=R1 at *
 generalize X8 s X C []=R2 at *
 generalize X8 s X cnd cols=R3 at *
 clear pQ sP hi
 refine B6 Tryz.func4 80 fun lW E h0=>?_
 have pp:cols.length≤9223372036854775807:=by
  have:=(lW (.sl 1 (cols.map wA)) (by simp)).sl
  simpa using this
 have lk:cnd.kids.length≤9223372036854775807:=by
  have:=((lW (E0 cnd) (by simp)).agg (.sl 6 (cnd.kids.map L0)) (by simp[I6])).sl
  simpa using this
 clear lW
 repeat'((first|refine A1 UE ?_|refine b5 [] [] qc rfl rfl rfl rfl rfl trivial rfl rfl rfl rfl rfl ?_|refine nc [1] [0] yj rfl rfl rfl ⟨rfl,trivial⟩ ?_|(refine F6 6 ?_;refine O0 (id:=6) (σ':=⟨[(2,.sl 1 (cols.map wA)),(4,.iptr (I6 cnd)),(7,.ref 1 0),(10,.iptr (Fx X)),(11,.iptr (sL s))],2,[(1,some (.box [.sl 1 (t.map N9),.i a1]))]⟩) (A6 h0) ?_;refine G9 (id:=6) ⟨[(2,.sl 1 (cols.map wA)),(4,.iptr (I6 cnd)),(10,.iptr (Fx X)),(11,.iptr (sL s)),(12,.ref 2 0),(13,.i m)],3,[(2,some (.box (I6 C)))]⟩ ?_ ?_)|(refine F6 7 ?_;refine O0 (id:=7) (σ':=⟨[(2,.sl 1 (cols.map wA)),(4,.iptr (I6 cnd)),(10,.iptr (Fx X)),(11,.iptr (sL s)),(12,.iptr (I6 C)),(13,.i m)],0,[]⟩) (A6 h0) ?_;refine B3 ?_ ?_;kernel_rfl) |refine S2 ?_|(refine T6 ?_ ?_<;>intro h<;>try exact V1 h)|intro el lU lV|intro el lU|exact T4|refine T5 ?_ ?_|intro ex|refine nc [1] [0] hc rfl rfl rfl ⟨rfl,trivial⟩ ?_|refine nc [1] [0] hm rfl rfl rfl ⟨rfl,trivial⟩ ?_|refine A1 p1 ?_|refine A1 q1 ?_|refine A1 p2 ?_|refine A1 q2 ?_|refine A1 p3 ?_|refine A1 q3 ?_|refine A1 i1 ?_|refine A1 i2 ?_|refine A1 i3 ?_)<;>try conv=>whnf)
 all_goals first
  |(exfalso;omega)
  |exact A0 rfl rfl
  |exact A6 h0
theorem Qy(l:List AV)(h:KJ Tryz.prog Tryz.f4.params.toList l):A3 Tryz.prog 4 l (.b true):=by
 obtain⟨a1,r1,rfl,h1,a2,r2,rfl,h2,a3,r3,rfl,h3,rfl⟩:=h
 obtain⟨l,hl,rfl⟩:=jC h1
 obtain⟨c,rfl⟩:=iL h2
 obtain⟨ks,_,rfl⟩:=eH h3
 exact PN l c ks hl
end Go.Proofs.YtiphlhoclaogjaaGreatDoor
namespace Go.Av
open Go Go.RowKit
theorem eI{P:Program}{W:World}{n:String}{cs:Array Value}{g:Nat}(hg:P.globalNamed n=some g)(h:W.var? P n=some cs):∃t fr,W.heap[g]?=some (.cells cs t fr):=by
 unfold World.var? at h
 rw[hg]at h
 simp only[Option.bind_some]at h
 split at h
 ·rename_i c t fr he
  cases h
  exact⟨t,fr,he⟩
 ·cases h
theorem MQ{P:Program}{W:World}{name:String}{k:IntKind}{zs:List Int}{rest:List (String×DataW Unit)}{g:Nat}{t e:TypeId}{n:Nat}
  (hg:P.globalNamed name=some g) (zX:(P.globals[g]?).map (·.type)=some t) (ht:P.underlying t=some (.array n e)) (he:P.underlying e=some (.int k)) (qO:P.cellsOf e=1) (hct:P.cellsOf t=n)
  (h:laidMet P ((name,Lib.tabData k zs)::rest) W):∃t fr,W.heap[g]?=some (.cells (zs.map (Value.int k)).toArray t fr):=by
 have h1:=Lib.tabIs_of_head hg zX ht he qO hct h
 unfold Lib.TabIs at h1
 exact eI hg h1
def PO(W:World):List (Nat×IntKind×List Int)→Prop
 |[]=>True
 |(g,k,l)::r=>(∃t fr,W.heap[g]?=some (.cells (l.map (Value.int k)).toArray t fr))∧PO W r
def PQ(W:World):List Nat→Prop
 |[]=>True
 |g::r=>(∃te pe t fr,W.heap[g]?=some (.cells #[.iface te pe] t fr))∧PQ W r
theorem LS{W:World}:∀{T:List (Nat×IntKind×List Int)} {g:Nat} {k:IntKind} {l:List Int},PO W T→look T g=some (k,l)→∃t fr,W.heap[g]?=some (.cells (l.map (Value.int k)).toArray t fr)
 |[],g,k,l,_,h=>by cases h
 |(g',k',l')::r,g,k,l,h,hg=>by
  rw[E6]at hg
  by_cases e:g'=g
  ·rw[if_pos e]at hg;cases hg;subst e;exact h.1
  ·rw[if_neg e]at hg;exact LS h.2 hg
theorem LU{W:World}:∀{T:List Nat} {g:Nat},PQ W T→g∈T→∃te pe t fr,W.heap[g]?=some (.cells #[.iface te pe] t fr)
 |[],g,_,h=>by cases h
 |g'::r,g,h,hg=>by
  rcases List.mem_cons.1 hg with rfl|hg
  ·exact h.1
  ·exact LU h.2 hg
def PR(W:World):List Nat→Prop
 |[]=>True
 |g::r=>(∃m t fr,W.heap[g]?=some (.cells #[.int .i64 m] t fr))∧PR W r
theorem LV{W:World}:∀{T:List Nat} {g:Nat},PR W T→g∈T→∃m t fr,W.heap[g]?=some (.cells #[.int .i64 m] t fr)
 |[],g,_,h=>by cases h
 |g'::r,g,h,hg=>by
  rcases List.mem_cons.1 hg with rfl|hg
  ·exact h.1
  ·exact LV h.2 hg
theorem eJ{W:World}(h1:PO W RW)(h2:PQ W iM)(h3:PR W iN):R8 Gn W :=
 ⟨fun g k l h=>⟨fun hu=>hu.elim,LS h1 h⟩,fun g h=>⟨fun hu=>hu.elim,LU h2 h⟩,fun g h=>⟨fun hu=>hu.elim,LV h3 h⟩⟩
end Go.Av
