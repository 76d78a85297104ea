/- A contract whose result is memory of one's own, said with less. Contracts whose results are memory of one's own, said with what that memory holds. -/
import Derived.Test.YtkcekccdcpmekaaGreatDoorQAvTy
import Derived.Test.YtkcekccdcpmekaaGreatDoorQE3
import Derived.Test.YtkcekccdcpmekaaGreatDoorQB13
import Derived.Test.YtkcekccdcpmekaaGreatDoorQSx
import Derived.Test.YtkcekccdcpmekaaGreatDoorQB12
import Derived.Test.YtkcekccdcpmekaaGreatDoorQB8
import Derived.Test.YtkcekccdcpmekaaGreatDoorQB4
set_option linter.unusedVariables false
set_option linter.unnecessarySimpa false
set_option linter.unusedSimpArgs false
set_option maxHeartbeats 64000000
namespace Go.Av
open Go Go.RowKit
theorem Rt{P:Program}{f m0 m1 m2:Nat}{kv hp1 nZ:Hp}{args:List AV}{r r2:AV}(h:A9 P f m0 kv args m1 hp1 r)(hm:Nat.ble m0 m1=true)(nA:∀E:Env,E.n0=m0→St.le E 1 ⟨[(0,r)],m1,hp1⟩ ⟨[(0,r2)],m2,nZ⟩):A9 P f m0 kv args m2 nZ r2:=by
 refine⟨h.1,fun X θ w vs hX mQ oE hl oS=>?_⟩
 refine Calls.mono (h.2 X θ w vs hX mQ oE hl oS) ?_
 rintro e w' ⟨⟨v,θ',rfl,hv,od,ko,hθ⟩,tV,oQ,ph,lP,mX⟩
 have wz:BS ⟨w,X,owned θ kv,θ,m0,mQ,false⟩ 1 ⟨[(0,r)],m1,hp1⟩ { tmps:=#[v],defers:=[] } w':=by
  refine⟨θ',rfl,.nil,⟨tV,oQ,ph,lP,mX⟩,fun s x hs=>?_,od.owns,od.apart,fun i b k hi hk=>⟨od.fresh i b k hi hk,ko i b k hi hk⟩,hX,⟨Nat.ble_eq▸hm,hθ⟩⟩
  rw[I1]at hs
  split at hs
  ·rename_i e0
   subst e0
   cases hs
   exact hv
  ·cases hs
 obtain⟨θ2,hs⟩:=nA _ rfl _ _ wz
 have hr:=hs.slots 0 r2 rfl
 exact⟨⟨v,θ2,rfl,hr,⟨hs.owns,hs.apart,fun i b k hi hk=>(hs.mine i b k hi hk).1⟩,fun i b k hi hk=>(hs.mine i b k hi hk).2,hs.base.2⟩,hs.fr.os,hs.fr.tape,hs.fr.output,hs.fr.size,hs.fr.block⟩
end Go.Av
namespace Go.Proofs.YtkcekccdcpmekaaGreatDoor
open Go Go.Av
attribute [local irreducible] E8 B5 E5 E1 DQ E7 E9 St.le A4 A9
set_option maxRecDepth 100000
theorem YN(l:List UInt8)(a:Nat)(hl:l.length≤400):A9 Tryz.prog 6 1 (E6 l a) [.ref 0 0] 1 (E6 l (JK l a).2) (sA (JK l a).1) :=
 Rt (aQ l a hl) rfl fun E h0=>B2 h0
theorem HD(n lo hi:Int):A4 Tryz.prog 131 [.i n,.i lo,.i hi] (.b (decide (lo≤n∧n≤hi))):=by
 refine D0 Tryz.func131 15 fun ki E h0=>?_
 clear ki
 repeat'((first|refine S2 ?_|(refine T6 ?_ ?_<;>intro h<;>try exact V1 h)|intro el ke kg|intro el ke|exact T4|refine T5 ?_ ?_|intro ex)<;>try conv=>whnf)
 all_goals first
  |exact A3 rfl (congrArg AV.b (decide_eq_true (by omega)).symm)
  |exact A3 rfl (congrArg AV.b (decide_eq_false (by omega)).symm)
  |exact A3 rfl (congrArg AV.b (by simp only[*,true_and]))
def IB(ws:List Int)(k:Nat):Prop:=k≤ws.length∧((k=0)∨(0<k∧1≤ws.getD (k-1) 0∧y5 ws=Gu (ws.getD (k-1) 0) (ws.drop k)))
theorem IB.wat{ws:List Int}{k:Nat}(h:IB ws k):Dg ws k (if k=0 then 1 else ws.getD (k-1) 0):=by
 refine⟨h.1,?_⟩
 rcases h.2 with h2|h2
 ·left;rw[if_pos h2];exact⟨h2,rfl⟩
 ·right;rw[if_neg (by omega)];exact h2
theorem IB.of{ws:List Int}{k:Nat}{w:Int}(hw:ws[k]?=some w)(h:Dg ws (k+1) w):IB ws (k+1):=by
 refine⟨h.1,.inr ?_⟩
 rcases h.2 with h2|h2
 ·omega
 ·rw[Nat.add_sub_cancel,S5 hw];exact h2
theorem ak{α:Type}{ws:List α}{k:Nat}{q d:α}(h:0<(k:Int))(hq:ws[((k:Int)-1).toNat]?=some q):ws.getD (k-1) d=q:=S5 (by rw[←hq];congr 1;omega)
theorem IB.prev{ws:List Int}{k:Nat}{q:Int}(h:IB ws k)(h0:0<(k:Int))(hq:ws[((k:Int)-1).toNat]?=some q):Dg ws k q∧1≤q:=by
 have h1:=h.wat
 rw[if_neg (by omega),ak h0 hq]at h1
 exact⟨h1,h1.pos⟩
theorem PR(c:H2):A4 Tryz.prog 132 [GW c] (.i (meaE c)):=by
 have qT:=HD c.low (-1000000) 1000000
 have qN:=HD c.high (-1000000) 1000000
 refine D0 Tryz.func132 79 fun ki E h0=>?_
 have kf:c.widths.length≤9223372036854775807:=by
  have:=((ki (GW c) (by simp)).agg (.sl 1 (c.widths.map wA)) (by simp)).sl
  simpa using this
 clear ki
 repeat'((first|refine A0 qT ?_|refine A0 qN ?_ |refine S2 ?_|(refine T6 ?_ ?_<;>intro h<;>try exact V1 h)|intro el ke kg|intro el ke|exact T4|refine T5 ?_ ?_|intro ex)<;>try conv=>whnf)
 all_goals first
  |(refine A3 rfl (congrArg AV.i ?_);rw[meaE,if_pos (by omega)];done)
  |(refine A3 rfl (congrArg AV.i ?_);rw[meaE,if_neg (by omega),if_pos (by omega)];done)
  |skip
 have hm:meaE c=if y5 c.widths=true then 0 else 2:=by rw[meaE,if_neg (by omega),if_neg (by omega)]
 have hne:c.widths.length≠0:=by omega
 rw[hm]
 refine D5 (ι:=Nat) (fun k=>⟨[(1,.ref 0 0),(3,.i k)],1,[(0,some (.box (M7 c)))]⟩) (fun k=>IB c.widths k) (fun k=>c.widths.length-k) 0 ⟨Nat.zero_le _,.inl rfl⟩ (B2 h0) (fun k hI=>?_)
 have hk:=hI.1
 repeat'((first|(refine E0 ?_ ?_;(have:=(hI.prev (by assumption) ke).2;omega)) |refine S2 ?_|(refine T6 ?_ ?_<;>intro h<;>try exact V1 h)|intro el ke kg|intro el ke|exact T4|refine T5 ?_ ?_|intro ex)<;>try conv=>whnf)
 all_goals first
  |exact⟨k+1,IB.of ke (hI.wat.first ke (by omega) (by omega)),by omega,B2 h0⟩
  |exact A3 rfl (congrArg AV.i (by rw[hI.wat.bad0 ke (by omega) (by omega)];rfl))
  |exact A3 rfl (congrArg AV.i (by rw[(hI.prev (by assumption) ke).1.bad (by assumption) (by omega) (fun hx=>by first|exact absurd hx.2.1 (by assumption)|omega)];rfl))
  |exact⟨k+1,IB.of (by assumption) ((hI.prev (by assumption) ke).1.next (by assumption) (by omega) (by omega) (Classical.byContradiction (by assumption)) (by omega)),by omega,B2 h0⟩
  |exact A3 rfl (congrArg AV.i (by rw[hI.wat.done (by assumption) hne];rfl))
theorem am{s:A5}{i:Nat}{c:H2}(hn:D8 c.name=true)(hd:Eh s i c=true):10=colE s i c:=by
 rw[colE,if_neg (by rw[hn];decide),if_pos hd]
theorem Ja{s:A5}{i:Nat}{c:H2}{e:Int}(hn:D8 c.name=true)(hd:Eh s i c=false)(hk:kindE s i c=e)(he:e≠0):e=colE s i c:=by
 rw[colE,if_neg (by rw[hn];decide),if_neg (by rw[hd];decide),hk,if_neg he]
theorem Ou{s:A5}{i:Nat}{c:H2}{b:Bool}(hn:D8 c.name=true)(hd:Eh s i c=false)(hk:kindE s i c=0)(hu:Eu c=b):(if b=true then 0 else 11)=colE s i c:=by
 unfold colE
 simp only[hn,hd,hk,hu,if_true,if_false,Bool.true_eq_false,Bool.false_eq_true]
theorem Ru(s:A5)(i:Nat)(c:H2)(hc:s.cols[i]?=some c)(lc:i<9223372036854775807):A4 Tryz.prog 89 [sA s,.i i] (.i (colE s i c)):=by
 have hi:=S8 hc
 have qT:=HD c.kind 1 3
 have qN:=HD c.lst 0 ((s.lists.length:Int)-1)
 have nL:=PR c
 generalize hm:meaE c=m at nL
 refine D0 Tryz.func89 98 fun ki E h0=>?_
 obtain⟨mI,lk,pA⟩:=Ch (s:=s) (ki _ (by simp))
 clear ki
 repeat'((first|(refine A2 (x:=c) (by simpa using hc) (by omega) ?_)|refine A0 (Bx _) ?_ |refine S2 ?_|(refine T6 ?_ ?_<;>intro h<;>try exact V1 h)|intro el ke kg|intro el ke|exact T4|refine T5 ?_ ?_|intro ex)<;>try conv=>whnf)
 all_goals first
  |(refine A3 rfl (congrArg AV.i ?_);rw[colE,if_pos h];done)
  |skip
 have hn:=h
 clear h
 refine D5 (ι:=Nat) (fun k=>⟨[(1,.i i),(2,.ref 0 0),(5,.ref 1 0),(6,.i k)],2,[(0,some (.box (sL s))),(1,some (.box (M7 c)))]⟩) (fun k=>k≤i∧o9 (fun x=>decide (x.name=c.name)) (s.cols.take i) k) (fun k=>i-k) 0 ⟨Nat.zero_le _,o9.zero _ _⟩ (B2 h0) (fun k hI=>?_)
 obtain⟨hk,hI⟩:=hI
 have wq:(s.cols.take i).length=i:=by rw[List.length_take];omega
 have qx:∀el,(k:Int)<i→s.cols[k]?=some el→(s.cols.take i)[k]?=some el:=fun el h1 h2=>by rw[List.getElem?_take_of_lt (by omega)];exact h2
 repeat'((first|refine A0 qT ?_|refine A0 qN ?_|refine A0 nL ?_ |refine S2 ?_|(refine T6 ?_ ?_<;>intro h<;>try exact V1 h)|intro el ke kg|intro el ke|exact T4|refine T5 ?_ ?_|intro ex)<;>try conv=>whnf)
 all_goals first
  |(refine A3 rfl (congrArg AV.i ?_);exact am hn (hI.hit (qx _ (by assumption) ke) (decide_eq_true (by assumption))).symm)
  |exact⟨k+1,⟨by omega,hI.step (qx _ (by assumption) ke) (decide_eq_false (by assumption))⟩,by omega,B2 h0⟩
  |skip
 all_goals
  have hd:Eh s i c=false:=(hI.done (by omega)).symm
  refine A3 rfl (congrArg AV.i ?_)
  clear hI qx wq qT qN nL pA h0 E hc
 all_goals first
  |exact Ja (e:=4) hn hd (by unfold kindE;simp only[hm];(repeat' split)<;>first|rfl|omega) (by decide)
  |exact Ja (e:=5) hn hd (by unfold kindE;simp only[hm];(repeat' split)<;>first|rfl|omega) (by decide)
  |exact Ja (e:=m) hn hd (by unfold kindE;simp only[hm];(repeat' split)<;>first|rfl|omega) (by assumption)
  |exact Ou (b:=true) hn hd (by unfold kindE;simp only[hm];(repeat' split)<;>first|rfl|omega) (decide_eq_true ⟨by omega,by first|exact .inl (by omega)|exact .inr ⟨by omega,by omega,by omega,by assumption⟩⟩)
  |exact Ou (b:=false) hn hd (by unfold kindE;simp only[hm];(repeat' split)<;>first|rfl|omega) (decide_eq_false (fun hx=>by
    obtain⟨hx1,oH⟩:=hx
    rcases oH with h3|⟨h4,h5,h6,h7⟩
    ·omega
    ·first|omega|exact absurd (h.symm.trans h7) (by decide)))
theorem an{ls:List CL}{k:Nat}{el:CL}(h:chk el.1 el.2=0)(hd:true=(ls.take k).any fun x=>decide (x.1=el.1)):u4 ls k el=10:=by rw[u4,if_pos h,if_pos hd.symm]
theorem eU{ls:List CL}{k:Nat}{el:CL}(h:chk el.1 el.2=0)(hd:false=(ls.take k).any fun x=>decide (x.1=el.1)):u4 ls k el=0:=by rw[u4,if_pos h,if_neg (by rw[←hd];decide)]
theorem v7(s:A5):A4 Tryz.prog 47 [sA s] (.i (C8 s)):=by
 refine D0 Tryz.func47 77 fun ki E h0=>?_
 obtain⟨mI,lk,pA⟩:=Ch (s:=s) (ki _ (by simp))
 clear ki
 repeat'((first|refine S2 ?_|(refine T6 ?_ ?_<;>intro h<;>try exact V1 h)|intro el ke kg|intro el ke|exact T4|refine T5 ?_ ?_|intro ex)<;>try conv=>whnf)
 all_goals first
  |exact A3 rfl (congrArg AV.i (by rw[C8,if_pos (by omega)]))
  |skip
 have hs:C8 s=if J1 (u4 s.lists) 0 s.lists=0 then (if s.cols.head?.map (·.kind)=some 1 then J1 (colE s) 0 s.cols else 7)else J1 (u4 s.lists) 0 s.lists:=by rw[C8,if_neg (by omega)]
 rw[hs]
 refine D5 (ι:=Nat) (fun k=>⟨[(1,.ref 0 0),(3,.i k)],1,[(0,some (.box (sL s)))]⟩) (fun k=>M6 (u4 s.lists) s.lists k) (fun k=>s.lists.length-k) 0 (M6.zero _ _) (B2 h0) (fun k hI=>?_)
 have hk:=hI.1
 repeat'((first|refine A0 (GV _ _ (pA _ (List.mem_of_getElem? ke))) ?_ |refine S2 ?_|(refine T6 ?_ ?_<;>intro h<;>try exact V1 h)|intro el ke kg|intro el ke|exact T4|refine T5 ?_ ?_|intro ex)<;>try conv=>whnf)
 all_goals first
  |(refine A3 rfl (congrArg AV.i ?_)
    have he:u4 s.lists k el=chk el.1 el.2:=by rw[u4,if_neg (by assumption)]
    rw[←hI.hit ke (by rw[he];assumption),he,if_neg (by assumption)];done)
  |(have hd:=hI.done (by assumption)
    refine A3 rfl (congrArg AV.i ?_)
    rw[if_pos hd,if_neg]
    intro hx
    rw[List.head?_eq_getElem?]at hx
    first
     |(rw[show s.cols[0]?=none from List.getElem?_eq_none (by omega)]at hx;cases hx)
     |(have mH:s.cols[0]?=some el:=ke
       rw[mH]at hx
       have:=Option.some.inj hx
       exact absurd this (by assumption)))
  |skip
 ·have qf:chk el.1 el.2=0:=Classical.byContradiction (by assumption)
  refine D5 (ι:=Nat) (fun j=>⟨[(1,.ref 0 0),(3,.i k),(5,.i j)],1,[(0,some (.box (sL s)))]⟩) (fun j=>j≤k∧o9 (fun x=>decide (x.1=el.1)) (s.lists.take k) j) (fun j=>k-j) 0 ⟨Nat.zero_le _,o9.zero _ _⟩ (B2 h0) (fun j hJ=>?_)
  obtain⟨hj,hJ⟩:=hJ
  have qx:∀x,(j:Int)<k→s.lists[j]?=some x→(s.lists.take k)[j]?=some x:=fun x h1 h2=>by rw[List.getElem?_take_of_lt (by omega)];exact h2
  have rm:=ke
  have wq:(s.lists.take k).length=k:=by rw[List.length_take];omega
  repeat'((first|(refine A2 (x:=el) rm (by omega) ?_) |refine S2 ?_|(refine T6 ?_ ?_<;>intro h<;>try exact V1 h)|intro el ke kg|intro el ke|exact T4|refine T5 ?_ ?_|intro ex)<;>try conv=>whnf)
  all_goals first
   |exact⟨j+1,⟨by omega,hJ.step (qx _ (by assumption) ke) (decide_eq_false (by assumption))⟩,by omega,B2 h0⟩
   |(refine A3 rfl (congrArg AV.i ?_)
     have he:=an qf (hJ.hit (qx _ (by assumption) ke) (decide_eq_true (by assumption)))
     rw[←hI.hit rm (by rw[he];decide),he];rfl)
   |exact⟨k+1,hI.step rm (eU qf (hJ.done (by omega))),by omega,B2 h0⟩
 have hd:=hI.done (by assumption)
 have hh:s.cols.head?.map (·.kind)=some 1:=by
  rw[List.head?_eq_getElem?]
  have mH:s.cols[0]?=some el:=ke
  rw[mH]
  exact congrArg some (Classical.byContradiction (by assumption))
 rw[if_pos hd,if_pos hh]
 refine D5 (ι:=Nat) (fun k=>⟨[(1,.ref 0 0),(6,.i k)],1,[(0,some (.box (sL s)))]⟩) (fun k=>M6 (colE s) s.cols k) (fun k=>s.cols.length-k) 0 (M6.zero _ _) (B2 h0) (fun k hI=>?_)
 have hk:=hI.1
 have lz:=fun (h:(k:Int)<s.cols.length)=>Ru s k (s.cols[k]'(by omega)) (List.getElem?_eq_getElem (by omega)) (by omega)
 repeat'((first|refine A0 (lz (by assumption)) ?_ |refine S2 ?_|(refine T6 ?_ ?_<;>intro h<;>try exact V1 h)|intro el ke kg|intro el ke|exact T4|refine T5 ?_ ?_|intro ex)<;>try conv=>whnf)
 all_goals first
  |exact⟨k+1,hI.step (List.getElem?_eq_getElem (by omega)) (Classical.byContradiction (by assumption)),by omega,B2 h0⟩
  |exact A3 rfl (congrArg AV.i (hI.hit (List.getElem?_eq_getElem (by omega)) (by assumption)))
  |exact A3 rfl (congrArg AV.i (hI.done (by assumption)).symm)
theorem BM(s:A5)(n:List UInt8):A4 Tryz.prog 142 [sA s,.str n] (.i (F0 s n)):=by
 refine D0 Tryz.func142 22 fun ki E h0=>?_
 obtain⟨mI,lk,pA⟩:=Ch (s:=s) (ki _ (by simp))
 clear ki
 repeat'((first|refine S2 ?_|(refine T6 ?_ ?_<;>intro h<;>try exact V1 h)|intro el ke kg|intro el ke|exact T4|refine T5 ?_ ?_|intro ex)<;>try conv=>whnf)
 unfold F0
 refine D5 (ι:=Nat) (fun k=>⟨[(1,.str n),(2,.ref 0 0),(5,.i k)],1,[(0,some (.box (sL s)))]⟩) (fun k=>k≤s.cols.length∧K6 (fun c:H2=>decide (c.name=n)) s.cols 0=K6 (fun c:H2=>decide (c.name=n)) (s.cols.drop k) k) (fun k=>s.cols.length-k) 0 ⟨Nat.zero_le _,rfl⟩ (B2 h0) (fun k hI=>?_)
 obtain⟨hk,hI⟩:=hI
 repeat'((first|refine S2 ?_|(refine T6 ?_ ?_<;>intro h<;>try exact V1 h)|intro el ke kg|intro el ke|exact T4|refine T5 ?_ ?_|intro ex)<;>try conv=>whnf)
 all_goals first
  |exact⟨k+1,⟨by omega,by rw[hI,O6 ke,K6,if_neg (by simp[h])];rfl⟩,by omega,B2 h0⟩
  |exact A3 rfl (congrArg AV.i (by rw[hI,O6 ke,K6,if_pos (by simp[h])]))
  |exact A3 rfl (congrArg AV.i (by rw[hI,show k=s.cols.length by omega,List.drop_length];rfl))
theorem Jb(s:A5)(column:Int):A4 Tryz.prog 55 [sA s,.i column] (.i (J2 s column)):=by
 refine D0 Tryz.func55 39 fun ki E h0=>?_
 obtain⟨mI,lk,pA⟩:=Ch (s:=s) (ki _ (by simp))
 have uj:=fun (l:CL) (hl:s.lists[(C7 s column).lst.toNat]?=some l)=>Hk (nm:=l.1) (pA l (List.mem_of_getElem? hl))
 clear ki
 repeat'((first|refine A0 (v7 s) ?_ |refine S2 ?_|(refine T6 ?_ ?_<;>intro h<;>try exact V1 h)|intro el ke kg|intro el ke|exact T4|refine T5 ?_ ?_|intro ex)<;>try conv=>whnf)
 all_goals first
  |exact A3 rfl (congrArg AV.i (by rw[J2,if_neg (by assumption)]))
  |exact A3 rfl (congrArg AV.i (by rw[J2,if_pos (Classical.byContradiction (by assumption)),U6,if_pos (by omega)]))
  |skip
 all_goals
  have hr:C8 s=0:=Classical.byContradiction (by assumption)
  rw[J2,if_pos hr]
 repeat'((first|(refine A0 (RO _ _ (pA _ (List.mem_of_getElem? (by assumption)))) ?_)|(refine Do ?_ ?_ (fun lx lr=>?_);(have:=AA.lst hr (List.mem_of_getElem? ke) (by assumption);omega);(have:=AA.lst hr (List.mem_of_getElem? ke) (by assumption);omega))|(refine E0 ?_ ?_;(have:=uj lx (by rw[D4 ke];exact lr);omega)) |refine S2 ?_|(refine T6 ?_ ?_<;>intro h<;>try exact V1 h)|intro el ke kg|intro el ke|exact T4|refine T5 ?_ ?_|intro ex)<;>try conv=>whnf)
 all_goals first
  |(refine A3 rfl (congrArg AV.i ?_);rw[U6,if_neg (by omega),D4 ke,CH,if_pos (by assumption),M8 lr];done)
  |(refine A3 rfl (congrArg AV.i ?_);rw[U6,if_neg (by omega),D4 ke,CH,if_neg (by assumption)];done)
end Go.Proofs.YtkcekccdcpmekaaGreatDoor
