/- Chapter 16: the text of a right expression is read as it. -/
import Derived.Test.YtjmbhlgocikfiaaGreatDoorURp1
set_option linter.unusedVariables false
set_option linter.unnecessarySimpa false
set_option linter.unusedSimpArgs false
namespace Go.Proofs.YtjmbhlgocikfiaaGreatDoor
open Go Go.Av
attribute [local irreducible] AWp AOps AAny MAny DQ retQ retG St.le FCall GCall
set_option maxRecDepth 100000
theorem stops_of {a:UInt8} {u:List UInt8} (h:isW a = false):Stops (a :: u):=fun b r e=>by cases e;exact h
theorem stops_47 (u:List UInt8):Stops ([47] ++ u):=stops_of (a:=47) (by rfl)
theorem stops_41 (u:List UInt8):Stops ([41] ++ u):=stops_of (a:=41) (by rfl)
theorem stops_com (u:List UInt8):Stops (bCom ++ u):=stops_of (a:=44) (by rfl)
theorem stops_sb (u:List UInt8):Stops (bSep ++ u):=stops_of (a:=59) (by rfl)
theorem col_ok {s:Sch} (hr:schE s = 0) {c:Int} (h0:0 ≤ c) (h1:c < s.cols.length):∃ nm:List UInt8,nmD s c = nm ∧ nameB nm = true ∧ findS2 s nm = c:=by
 obtain ⟨x,hx⟩:∃ x,s.cols[c.toNat]? = some x:=⟨_,List.getElem?_eq_getElem (by omega)⟩
 refine ⟨x.name,?_,(col_parts hr hx).1,?_⟩
 ·unfold nmD colNm
  rw [if_neg (by omega),colAt_get hx]
 ·rw [find_col hr hx];omega
theorem colO_txt {s:Sch} (hr:schE s = 0) {c:Int} (h0:0 ≤ c) (h1:c < s.cols.length) {u:List UInt8} (hu:Stops u):colO s (nmD s c ++ u) = some (c,u):=by
 obtain ⟨nm,e,h2,h3⟩:=col_ok hr h0 h1
 obtain ⟨t1,t2⟩:=tw_app (name_w h2).1 hu
 unfold colO
 rw [e,t1,t2,h3,if_pos h0]
theorem numO_txt {n:Int} (h1:-100000000000000 ≤ n) (h2:n ≤ 100000000000000) {u:List UInt8} (hu:Stops u):numO (Lib.itoa n ++ u) = some (n,u):=by
 obtain ⟨e,hl⟩:=num_txt2 h1 h2 hu
 unfold numO
 rw [e,if_pos ⟨rfl,hl⟩]
theorem cndO_txt {s:Sch} {c:Cnd} (h:cndE s c = 0) {u:List UInt8} (hu:Stops u):cndO s (txtS s c ++ u) = some (c,u):=by
 obtain ⟨hr,h3,h4,h5⟩:=cndE_parts h
 unfold cndO
 rw [con_txt hr c h5 10 40 u h4 (by omega) hu]
 rfl
abbrev okD (s:Sch) (d:Pk):Prop:=(0 ≤ d.col ∧ d.col < s.cols.length) ∧ 0 ≤ d.lev ∧ d.lev ≤ 61
theorem dimsO_txt {s:Sch} (hr:schE s = 0):∀ (r:List Pk) (n:Nat) (acc:List Pk) (u:List UInt8),r ≠ [] → r.length ≤ n → (∀ d ∈ r,okD s d) → Stops u → takO bCom u = none → dimsO s n acc (jnS bCom (r.map (dimT s)) ++ u) = some (acc ++ r,u)
 | [],n,acc,u,h,_,_,_,_=>absurd rfl h
 | d :: r,0,acc,u,_,h,_,_,_=>by simp at h
 | d :: r,n + 1,acc,u,_,hn,hd,hu,hc=>by
  obtain ⟨⟨c0,c1⟩,l0,l1⟩:=hd d (by simp)
  by_cases hr0:r = []
  ·subst hr0
   have e:jnS bCom ([d].map (dimT s)) ++ u = nmD s d.col ++ ([47] ++ (Lib.itoa d.lev ++ u)):=by
    show dimT s d ++ u = _
    unfold dimT
    simp only [List.append_assoc]
   rw [e,dimsO,colO_txt hr c0 c1 (stops_47 _)]
   dsimp only
   rw [takO_yes]
   dsimp only
   rw [numO_txt (by omega) (by omega) hu]
   dsimp only
   rw [hc]
  ·have e:jnS bCom ((d :: r).map (dimT s)) ++ u = nmD s d.col ++ ([47] ++ (Lib.itoa d.lev ++ (bCom ++ (jnS bCom (r.map (dimT s)) ++ u)))):=by
    rw [List.map_cons,jnS_cons _ _ (by simpa using hr0)]
    unfold dimT
    simp only [List.append_assoc]
   rw [e,dimsO,colO_txt hr c0 c1 (stops_47 _)]
   dsimp only
   rw [takO_yes]
   dsimp only
   rw [numO_txt (by omega) (by omega) (stops_com _)]
   dsimp only
   rw [takO_yes]
   dsimp only
   rw [dimsO_txt hr r n _ u hr0 (by simpa using hn) (fun q hq=>hd q (by simp [hq])) hu hc,List.append_assoc]
   rfl
theorem colsO_txt {s:Sch} (hr:schE s = 0):∀ (r:List Int) (n:Nat) (acc:List Int) (u:List UInt8),r ≠ [] → r.length ≤ n → (∀ d ∈ r,0 ≤ d ∧ d < s.cols.length) → Stops u → takO bCom u = none → colsO s n acc (jnS bCom (r.map (nmD s)) ++ u) = some (acc ++ r,u)
 | [],n,acc,u,h,_,_,_,_=>absurd rfl h
 | d :: r,0,acc,u,_,h,_,_,_=>by simp at h
 | d :: r,n + 1,acc,u,_,hn,hd,hu,hc=>by
  obtain ⟨c0,c1⟩:=hd d (by simp)
  by_cases hr0:r = []
  ·subst hr0
   rw [colsO,show jnS bCom ([d].map (nmD s)) = nmD s d from rfl,colO_txt hr c0 c1 hu]
   dsimp only
   rw [hc]
  ·have e:jnS bCom ((d :: r).map (nmD s)) ++ u = nmD s d ++ (bCom ++ (jnS bCom (r.map (nmD s)) ++ u)):=by
    rw [List.map_cons,jnS_cons _ _ (by simpa using hr0)]
    simp only [List.append_assoc]
   rw [e,colsO,colO_txt hr c0 c1 (stops_com _)]
   dsimp only
   rw [takO_yes]
   dsimp only
   rw [colsO_txt hr r n _ u hr0 (by simpa using hn) (fun q hq=>hd q (by simp [hq])) hu hc,List.append_assoc]
   rfl
theorem jn_len (sep:List UInt8) (hs:1 ≤ sep.length):∀ l:List (List UInt8),l.length ≤ (jnS sep l).length + 1
 | []=>by simp
 | [x]=>by simp
 | x :: y :: r=>by
  have:=jn_len sep hs (y :: r)
  rw [jnS,List.length_append,List.length_append,List.length_cons]
  omega
theorem name_no {nm u:List UInt8} (h:nameB nm = true) {a:UInt8} {w:List UInt8} (ha:a.toNat < 97):takO (a :: w) (nm ++ u) = none:=by
 obtain ⟨_,_,b,r,rfl,h3,_⟩:=name_w h
 exact takO_head (by intro e;subst e;omega)
theorem tabO_txt {s:Sch} (hr:schE s = 0) {ds:List Pk} (h1:ds ≠ []) (h2:∀ d ∈ ds,okD s d) {c:Int} (h3:c = -1 ∨ 0 ≤ c ∧ c < s.cols.length) {u:List UInt8} (hu:Stops u):tabO s (jnS bCom (ds.map (dimT s)) ++ bSep ++ nmD s c ++ u) = some ((c,ds),u):=by
 have hl:=jn_len bCom (by decide) (ds.map (dimT s))
 rw [List.length_map] at hl
 unfold tabO
 rw [List.append_assoc,List.append_assoc,dimsO_txt hr ds _ [] _ h1 (by rw [List.length_append];omega) h2 (stops_sb _) rfl]
 dsimp only
 rw [takO_yes,List.nil_append]
 dsimp only
 rcases h3 with rfl | ⟨c0,c1⟩
 ·rw [show nmD s (-1) = [45] from rfl,takO_yes]
 ·obtain ⟨nm,e,n1,n2⟩:=col_ok hr c0 c1
  have:=colO_txt hr c0 c1 hu
  rw [e] at this ⊢
  rw [name_no n1 (by decide),this]
def hdOk (s:Sch) (o c:Int) (ds:List Pk):Prop:=if o = 3 then c = 0 ∧ ds = [] else if o = 10 then ds ≠ [] ∧ (∀ d ∈ ds,okD s d) ∧ (c = -1 ∨ 0 ≤ c ∧ c < s.cols.length) else (0 ≤ c ∧ c < s.cols.length) ∧ ds = []
def mdOk (s:Sch) (o n:Int) (cs:List Int) (ev:Cnd):Prop:=if o = 11 then n = 0 ∧ ev = zX ∧ cs ≠ [] ∧ ∀ c ∈ cs,0 ≤ c ∧ c < s.cols.length else if o = 12 then n = 0 ∧ cs = [] ∧ cndE s ev = 0 else if o = 13 then (0 ≤ n ∧ n ≤ 1000000) ∧ cs = [] ∧ ev = zX else n = 0 ∧ cs = [] ∧ ev = zX
theorem stops_sep (u:List UInt8):Stops (bSep ++ u):=stops_sb u
theorem sepB_one (x u:List UInt8):sepB [x] ++ u = x ++ (bSep ++ u):=by unfold sepB;simp only [List.flatMap_cons,List.flatMap_nil,List.append_nil,List.append_assoc]
theorem sepB_two (x y u:List UInt8):sepB [x,y] ++ u = x ++ bSep ++ y ++ (bSep ++ u):=by unfold sepB;simp only [List.flatMap_cons,List.flatMap_nil,List.append_nil,List.append_assoc]
theorem headO_txt {s:Sch} (hr:schE s = 0) {o c:Int} {ds:List Pk} (h:hdOk s o c ds) (u:List UInt8):headO s o (sepB (hdX s o c ds) ++ u) = some ((c,ds),u):=by
 unfold hdOk at h
 unfold headO hdX
 by_cases h3:o = 3
 ·rw [if_pos h3] at h ⊢
  obtain ⟨rfl,rfl⟩:=h
  rw [if_pos h3];rfl
 ·rw [if_neg h3] at h ⊢
  rw [if_neg h3]
  by_cases h10:o = 10
  ·rw [if_pos h10] at h ⊢
   obtain ⟨h1,h2,h4⟩:=h
   rw [if_pos h10,sepB_two,tabO_txt hr h1 h2 h4 (stops_sep u)]
   dsimp only
   rw [takO_yes]
  ·rw [if_neg h10] at h ⊢
   obtain ⟨⟨c0,c1⟩,rfl⟩:=h
   rw [if_neg h10,sepB_one,colO_txt hr c0 c1 (stops_sep u)]
   dsimp only
   rw [takO_yes]
theorem midO_txt {s:Sch} (hr:schE s = 0) {o n:Int} {cs:List Int} {ev:Cnd} (h:mdOk s o n cs ev) (u:List UInt8):midO s o (sepB (mdX s o n cs ev) ++ u) = some (⟨n,cs,ev⟩,u):=by
 unfold mdOk at h
 unfold midO mdX
 by_cases h11:o = 11
 ·rw [if_pos h11] at h ⊢
  obtain ⟨rfl,rfl,h1,h2⟩:=h
  have hl:=jn_len bCom (by decide) (cs.map (nmD s))
  rw [List.length_map] at hl
  rw [if_pos h11,sepB_one,colsO_txt hr cs _ [] _ h1 (by rw [List.length_append];omega) h2 (stops_sep u) rfl]
  dsimp only
  rw [takO_yes,List.nil_append]
 ·rw [if_neg h11] at h ⊢
  rw [if_neg h11]
  by_cases h12:o = 12
  ·rw [if_pos h12] at h ⊢
   obtain ⟨rfl,rfl,h1⟩:=h
   rw [if_pos h12,sepB_one,cndO_txt h1 (stops_sep u)]
   dsimp only
   rw [takO_yes]
  ·rw [if_neg h12] at h ⊢
   rw [if_neg h12]
   by_cases h13:o = 13
   ·rw [if_pos h13] at h ⊢
    obtain ⟨h1,rfl,rfl⟩:=h
    rw [if_pos h13,sepB_one,numO_txt (by omega) (by omega) (stops_sep u)]
    dsimp only
    rw [takO_yes]
   ·rw [if_neg h13] at h ⊢
    obtain ⟨rfl,rfl,rfl⟩:=h
    rw [if_neg h13];rfl
theorem parsO_txt {s:Sch} (hr:schE s = 0) {o n c:Int} {cs:List Int} {ds:List Pk} {cd ev:Cnd} (h1:hdOk s o c ds) (h2:mdOk s o n cs ev) (h3:cndE s cd = 0) (u:List UInt8) :
  parsO s o ((sepB (hdX s o c ds) ++ (sepB (mdX s o n cs ev) ++ txtS s cd)) ++ [41] ++ u) = some (.mk o n [] c cs ds cd ev [],u):=by
 unfold parsO
 rw [List.append_assoc,List.append_assoc,List.append_assoc,headO_txt hr h1]
 dsimp only
 rw [midO_txt hr h2]
 dsimp only
 rw [cndO_txt h3 (stops_41 u)]
 dsimp only
 rw [takO_yes [41]]
theorem emp_zX {c:Cnd} (h:empP c):c = zX:=by
 obtain ⟨o,cl,k,lo,hi,ks⟩:=c
 obtain ⟨h1,h2,h3,h4,h5,h6⟩:=h
 dsimp only [Cnd.op,Cnd.col,Cnd.code,Cnd.lo,Cnd.hi,Cnd.kids] at *
 subst h1 h2 h3 h4 h5
 rw [List.eq_nil_of_length_eq_zero h6];rfl
def StopX (u:List UInt8):Prop:=∀ b r,u = b :: r → b.toNat = 32 ∨ b.toNat = 41
theorem StopX.stops {u:List UInt8} (h:StopX u):Stops u:=fun b r e=>by
 have:=h b r e
 unfold isW
 exact decide_eq_false (by omega)
theorem stopX_sgn (o:Int) (u:List UInt8):StopX (sgnX o ++ u):=fun b r e=>by
 unfold sgnX at e
 split at e
 ·cases e;exact .inl rfl
 ·split at e
  ·cases e;exact .inl rfl
  ·split at e <;> (cases e;exact .inl rfl)
theorem stopX_cl (u:List UInt8):StopX (41 :: u):=fun b r e=>by cases e;exact .inr rfl
theorem stopX_cl2 (u:List UInt8):StopX ([41] ++ u):=stopX_cl u
theorem stopX_nil:StopX []:=fun b r e=>by cases e
theorem StopX.no40 {u:List UInt8} (h:StopX u):takO [40] u = none:=by
 cases u with
 | nil=>rfl
 | cons b r=>exact takO_head (by intro e;have:=h b r rfl;subst e;revert this;decide)
theorem sgnO_txt {o:Int} (h:6 ≤ o ∧ o ≤ 9) (u:List UInt8):sgnO (sgnX o ++ u) = some (o,u):=by
 have:o = 6 ∨ o = 7 ∨ o = 8 ∨ o = 9:=by omega
 rcases this with rfl | rfl | rfl | rfl <;> rfl
theorem itoa_head (n:Int):∃ b r,Lib.itoa n = b :: r ∧ (b.toNat = 45 ∨ 48 ≤ b.toNat ∧ b.toNat ≤ 57):=by
 unfold Lib.itoa
 by_cases h:n < 0
 ·rw [if_pos h];exact ⟨45,_,rfl, .inl rfl⟩
 ·rw [if_neg h]
  obtain ⟨d1,d2,d3⟩:=digV_dec n.toNat
  cases hc:Lib.decDigits n.toNat with
  | nil=>rw [hc] at d3;simp at d3
  | cons c r=>exact ⟨c,r,rfl, .inr (head_dig d2 hc)⟩
theorem wrd_W (o:Int):(wrdX o).all isW = true ∧ ∃ b r,wrdX o = b :: r ∧ 97 ≤ b.toNat ∧ b.toNat ≤ 122:=by
 unfold wrdX
 (repeat' split) <;> exact ⟨by rfl,_,_,rfl,by decide,by decide⟩
theorem opsX_txt {o:Int} (h:o = 3 ∨ o = 4 ∨ o = 5 ∨ o = 10 ∨ o = 11 ∨ o = 12 ∨ o = 13 ∨ o = 14):opsX (wrdX o) = o:=by
 rcases h with rfl | rfl | rfl | rfl | rfl | rfl | rfl | rfl <;> rfl
theorem leafO_num {s:Sch} {v:Int} (h1:-100000000000000 ≤ v) (h2:v ≤ 100000000000000) {u:List UInt8} (hu:StopX u):takO [40] (Lib.itoa v ++ u) = none ∧ leafO s (Lib.itoa v ++ u) = some (.mk 1 v [] 0 [] [] zX zX [],u):=by
 have hn:=numO_txt h1 h2 hu.stops
 obtain ⟨b,r,e,hb⟩:=itoa_head v
 rw [e] at hn ⊢
 refine ⟨takO_head (by intro e;subst e;revert hb;decide),?_⟩
 unfold leafO
 rw [if_neg (by simp),show digO (b :: r ++ u) = true from decide_eq_true hb,if_pos rfl,hn]
theorem leafO_word {s:Sch} {w u:List UInt8} (hw:w.all isW = true) (hb:∃ b r,w = b :: r ∧ 97 ≤ b.toNat ∧ b.toNat ≤ 122) (hu:Stops u):takO [40] (w ++ u) = none ∧ leafO s (w ++ u) = wordO s w u:=by
 obtain ⟨t1,t2⟩:=tw_app hw hu
 obtain ⟨b,r,rfl,h3,h4⟩:=hb
 refine ⟨takO_head (by intro e;subst e;revert h3;decide),?_⟩
 unfold leafO
 rw [if_neg (by simp),show digO (b :: r ++ u) = false from decide_eq_false (by omega),if_neg (by simp),t1,t2]
theorem xkids_two {e:Xpr} (h:e.kids.length = 2):∃ x y,e.kids = [x,y]:=by
 match hk:e.kids,h with
 | [x,y],_=>exact ⟨x,y,rfl⟩
theorem dep_kid {e k:Xpr} (h:k ∈ e.kids):depS (treeX k) + 1 ≤ depS (treeX e):=by
 rw [depS_eq (treeX e),tree_kids]
 have:=(depL_ge (e.kids.map treeX) 0).2 (treeX k) (List.mem_map.2 ⟨k,h,rfl⟩)
 omega
theorem mea_wid {s:Sch} (hr:schE s = 0) {c:Int} {x:Col} (hx:s.cols[c.toNat]? = some x) (hk:x.kind = 3):∀ w ∈ x.widths,1 ≤ w ∧ w ≤ 1000000:=by
 have h:=(schE_parts hr).2.2.2.1 _ x hx
 unfold colE at h
 split at h
 ·cases h
 ·split at h
  ·cases h
  ·split at h
   ·rename_i hk2
    exact widths_bd (meaE_parts (kindE_mea hk2 hk)).2.2.2.2.2
   ·exact absurd h (by assumption)
theorem rig_call {s:Sch} (hr:schE s = 0) {e:Xpr} (hg:RigE s e) (h1:¬ e.op = 1) (h2:¬ e.op = 2) (h3:¬ (6 ≤ e.op ∧ e.op ≤ 9)):e.name = [] ∧ e.kids = [] ∧ hdOk s e.op e.col e.dims ∧ mdOk s e.op e.num e.cols e.evt ∧ cndE s e.cnd = 0:=by
 obtain ⟨u1,u2,u3,u4,u5,u6,u7,u8⟩:=hg.unu
 have hop:=hg.op
 simp only [usNum,usName,usCol,usCols,usDims,usCnd,usEvt,pairP] at u1 u2 u3 u4 u5 u6 u7 u8
 have hc:=hg.cnd (by simp only [usCnd];omega)
 have nil:∀ {α:Type} {l:List α},l.length = 0 → l = []:=fun h=>List.eq_nil_of_length_eq_zero h
 have k0:e.kids = []:=nil (by omega)
 have n0:e.name = []:=nil (by omega)
 refine ⟨n0,k0,?_,?_,hc⟩
 ·unfold hdOk
  by_cases o3:e.op = 3
  ·rw [if_pos o3];exact ⟨by omega,nil (by omega)⟩
  ·rw [if_neg o3]
   have hcol:=hg.col (by simp only [usCol];omega)
   by_cases o10:e.op = 10
   ·rw [if_pos o10]
    have hd:=hg.dim
    have hpar:=hg.par
    unfold parB at hpar
    rw [if_neg h1,if_neg h2,if_neg (by omega),if_pos o10] at hpar
    simp only [Bool.and_eq_true] at hpar
    have hde:=of_decide_eq_true hpar.1
    refine ⟨fun hn=>?_,fun d hm=>?_,?_⟩
    ·rw [hn] at hde;simp [dimsE] at hde
    ·have hp:=hd d hm
     unfold pickE pkE at hp
     rw [if_pos hr] at hp
     have hb:=finS_bd hr d.col
     split at hp
     ·cases hp
     ·split at hp
      ·cases hp
      ·rename_i q1 q2
       refine ⟨?_,by omega,by omega⟩
       unfold finS at q1
       by_cases hcc:d.col < 1 ∨ (s.cols.length:Int) ≤ d.col
       ·rw [if_pos hcc] at q1;omega
       ·omega
    ·rcases hcol with ⟨_,h⟩ | h
     ·exact .inl h
     ·obtain ⟨a,b,_⟩:=isB_col h;exact .inr ⟨a,b⟩
   ·rw [if_neg o10]
    rcases hcol with ⟨h,_⟩ | h
    ·exact absurd h o10
    ·obtain ⟨a,b,_⟩:=isB_col h;exact ⟨⟨a,b⟩,nil (by omega)⟩
 ·unfold mdOk
  by_cases o11:e.op = 11
  ·rw [if_pos o11]
   have hpar:=hg.par
   unfold parB at hpar
   rw [if_neg h1,if_neg h2,if_neg (by omega),if_neg (by omega),if_pos o11] at hpar
   simp only [Bool.and_eq_true] at hpar
   have hte:=of_decide_eq_true hpar.2
   refine ⟨by omega,emp_zX (u7.resolve_left (by omega)),fun hn=>?_,fun c hm=>?_⟩
   ·rw [hn] at hte;simp [trmsE] at hte
   ·obtain ⟨a,b,_⟩:=isB_col (hg.trm c hm);exact ⟨a,b⟩
  ·rw [if_neg o11]
   have c0:e.cols = []:=nil (by omega)
   by_cases o12:e.op = 12
   ·rw [if_pos o12]
    exact ⟨by omega,c0,hg.evt o12⟩
   ·rw [if_neg o12]
    have e0:=emp_zX (u7.resolve_left (by omega))
    by_cases o13:e.op = 13
    ·rw [if_pos o13]
     have hpar:=hg.par
     unfold parB at hpar
     rw [if_neg h1,if_neg h2,if_neg (by omega),if_neg (by omega),if_neg o11,if_neg o12,if_pos o13] at hpar
     simp only [Bool.and_eq_true] at hpar
     obtain ⟨w,hw,he⟩:=List.any_eq_true.1 hpar.2
     have hwe:=of_decide_eq_true he
     obtain ⟨_,_,x,hx,hk⟩:=isB_col hpar.1
     rw [colAt_get hx] at hw
     have hb:=mea_wid hr hx hk w hw
     exact ⟨by omega,c0,e0⟩
    ·rw [if_neg o13]
     exact ⟨by omega,c0,e0⟩
theorem exprO_txt {s:Sch} (hr:schE s = 0) (e:Xpr):rigS s e = true → ∀ (n:Nat) (u:List UInt8),depS (treeX e) ≤ n → StopX u → exprO s n (txtX s e ++ u) = some (e,u):=by
 refine xpr_ind (p:=fun e=>rigS s e = true → ∀ (n:Nat) (u:List UInt8),depS (treeX e) ≤ n → StopX u → exprO s n (txtX s e ++ u) = some (e,u)) (fun e ih h n u hd hu=>?_) e
 have hg:=rig_parts h
 have hop:=hg.op
 obtain ⟨n,rfl⟩:∃ m,n = m + 1:=⟨n - 1,by have:=depS_eq (treeX e);omega⟩
 have htx:=txtX_eq s e
 by_cases h1:e.op = 1
 ·have hpar:=hg.par
  unfold parB at hpar
  rw [if_pos h1] at hpar
  have hb:=of_decide_eq_true hpar
  rw [if_pos h1] at htx
  obtain ⟨g1,g2⟩:=leafO_num (s:=s) (v:=e.num) (by omega) (by omega) hu
  rw [htx,exprO,g1]
  dsimp only
  rw [g2]
  obtain ⟨u1,u2,u3,u4,u5,u6,u7,u8⟩:=hg.unu
  simp only [usNum,usName,usCol,usCols,usDims,usCnd,usEvt,pairP] at u1 u2 u3 u4 u5 u6 u7 u8
  have e6:=emp_zX (u6.resolve_left (by omega))
  have e7:=emp_zX (u7.resolve_left (by omega))
  have n2:=List.eq_nil_of_length_eq_zero (u2.resolve_left (by omega))
  have n4:=List.eq_nil_of_length_eq_zero (u4.resolve_left (by omega))
  have n5:=List.eq_nil_of_length_eq_zero (u5.resolve_left (by omega))
  have n8:=List.eq_nil_of_length_eq_zero (u8.resolve_left (by omega))
  have n3:=u3.resolve_left (by omega)
  obtain ⟨o,m,nm,c,cs,ds,cd,ev,ks⟩:=e
  dsimp only [Xpr.op,Xpr.num,Xpr.name,Xpr.col,Xpr.cols,Xpr.dims,Xpr.cnd,Xpr.evt,Xpr.kids] at *
  subst h1 n2 n3 n4 n5 e6 e7 n8
  rfl
 ·rw [if_neg h1] at htx
  by_cases h2:e.op = 2
  ·rw [if_pos h2] at htx
   have hpar:=hg.par
   unfold parB at hpar
   rw [if_neg h1,if_pos h2] at hpar
   obtain ⟨w1,w2,w3⟩:=name_w hpar
   obtain ⟨g1,g2⟩:=leafO_word (s:=s) w1 w3 hu.stops
   have hne:e.name ≠ []:=by
    obtain ⟨b,r,hb,_⟩:=w3
    rw [hb];simp
   have g3:wordO s e.name u = namO e.name u:=by
    unfold wordO
    split
    ·rw [hu.no40]
    ·rfl
   rw [htx,exprO,g1]
   dsimp only
   rw [g2,g3]
   unfold namO
   rw [if_neg hne]
   obtain ⟨u1,u2,u3,u4,u5,u6,u7,u8⟩:=hg.unu
   simp only [usNum,usName,usCol,usCols,usDims,usCnd,usEvt,pairP] at u1 u2 u3 u4 u5 u6 u7 u8
   have e6:=emp_zX (u6.resolve_left (by omega))
   have e7:=emp_zX (u7.resolve_left (by omega))
   have n1:=u1.resolve_left (by omega)
   have n4:=List.eq_nil_of_length_eq_zero (u4.resolve_left (by omega))
   have n5:=List.eq_nil_of_length_eq_zero (u5.resolve_left (by omega))
   have n8:=List.eq_nil_of_length_eq_zero (u8.resolve_left (by omega))
   have n3:=u3.resolve_left (by omega)
   obtain ⟨o,m,nm,c,cs,ds,cd,ev,ks⟩:=e
   dsimp only [Xpr.op,Xpr.num,Xpr.name,Xpr.col,Xpr.cols,Xpr.dims,Xpr.cnd,Xpr.evt,Xpr.kids] at *
   subst h2 n1 n3 n4 n5 e6 e7 n8
   rfl
  ·rw [if_neg h2] at htx
   by_cases h6:6 ≤ e.op ∧ e.op ≤ 9
   ·rw [if_pos h6] at htx
    obtain ⟨x,y,hk⟩:=xkids_two (hg.pair h6)
    have kx:=hg.kid x (by rw [hk];simp)
    have ky:=hg.kid y (by rw [hk];simp)
    have hdx:=dep_kid (e:=e) (k:=x) (by rw [hk];simp)
    have hdy:=dep_kid (e:=e) (k:=y) (by rw [hk];simp)
    have tx:txtX s e ++ u = [40] ++ (txtX s x ++ (sgnX e.op ++ (txtX s y ++ ([41] ++ u)))):=by
     rw [htx,hk]
     simp only [List.map_cons,List.map_nil,List.getD_cons_zero,List.getD_cons_succ,List.append_assoc]
    rw [tx,exprO,takO_yes]
    dsimp only
    unfold pairO
    dsimp only
    rw [ih x (by rw [hk];simp) kx.2 n _ (by omega) (stopX_sgn _ _)]
    dsimp only
    rw [sgnO_txt h6]
    dsimp only
    rw [ih y (by rw [hk];simp) ky.2 n _ (by omega) (stopX_cl2 u)]
    dsimp only
    rw [takO_yes]
    obtain ⟨u1,u2,u3,u4,u5,u6,u7,u8⟩:=hg.unu
    simp only [usNum,usName,usCol,usCols,usDims,usCnd,usEvt,pairP] at u1 u2 u3 u4 u5 u6 u7 u8
    have e6:=emp_zX (u6.resolve_left (by omega))
    have e7:=emp_zX (u7.resolve_left (by omega))
    have n1:=u1.resolve_left (by omega)
    have n2:=List.eq_nil_of_length_eq_zero (u2.resolve_left (by omega))
    have n4:=List.eq_nil_of_length_eq_zero (u4.resolve_left (by omega))
    have n5:=List.eq_nil_of_length_eq_zero (u5.resolve_left (by omega))
    have n3:=u3.resolve_left (by omega)
    obtain ⟨o,m,nm,c,cs,ds,cd,ev,ks⟩:=e
    dsimp only [Xpr.op,Xpr.num,Xpr.name,Xpr.col,Xpr.cols,Xpr.dims,Xpr.cnd,Xpr.evt,Xpr.kids] at *
    subst n1 n2 n3 n4 n5 e6 e7 hk
    rfl
   ·obtain ⟨g1,g2,g3,g4,g5⟩:=rig_call hr hg h1 h2 h6
    obtain ⟨w1,w2⟩:=wrd_W e.op
    obtain ⟨o,m,nm,c,cs,ds,cd,ev,ks⟩:=e
    dsimp only [Xpr.op,Xpr.num,Xpr.name,Xpr.col,Xpr.cols,Xpr.dims,Xpr.cnd,Xpr.evt,Xpr.kids] at *
    subst g1 g2
    have tx:txtX s (.mk o m [] c cs ds cd ev []) ++ u = wrdX o ++ ([40] ++ ((sepB (hdX s o c ds) ++ (sepB (mdX s o m cs ev) ++ txtS s cd)) ++ [41] ++ u)):=by
     rw [txt_call s o m c cs ds cd ev h1 h2 h6]
     simp only [List.append_assoc]
    obtain ⟨q1,q2⟩:=leafO_word (s:=s) (u:=[40] ++ ((sepB (hdX s o c ds) ++ (sepB (mdX s o m cs ev) ++ txtS s cd)) ++ [41] ++ u)) w1 w2 (stops_of (by rfl))
    rw [tx,exprO,q1]
    dsimp only
    rw [q2]
    unfold wordO
    rw [opsX_txt (by omega),if_pos (by omega),takO_yes]
    dsimp only
    exact parsO_txt hr g3 g4 g5 u
end Go.Proofs.YtjmbhlgocikfiaaGreatDoor
