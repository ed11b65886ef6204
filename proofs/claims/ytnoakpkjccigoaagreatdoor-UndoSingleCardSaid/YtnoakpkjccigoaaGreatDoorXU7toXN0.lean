/-
  UNDO, plain law 7: the patch of an item takes it back.
-/
import Derived.Test.YtnoakpkjccigoaaGreatDoorXV0toXU6
import Derived.Lib.ItoaLen
import Derived.Test.YtnoakpkjccigoaaGreatDoorXM4toXE16
import Derived.Test.YtnoakpkjccigoaaGreatDoorXGlobtoXCS
import Derived.Test.YtnoakpkjccigoaaGreatDoorXC4
import Derived.Test.YtnoakpkjccigoaaGreatDoorXC5
import Derived.Test.YtnoakpkjccigoaaGreatDoorXC6
import Derived.Test.YtnoakpkjccigoaaGreatDoorXP8toXAv31
namespace Go.Av
open Go Go.RowKit Go.Proofs List
set_option linter.unusedSimpArgs false
set_option linter.unusedVariables false
theorem undo_one {u:U} (h:Good u) (h0:u.kind=0) {d:Dd} (hok:(doP u d).2=0) (ha:1<=d.act):(invP u d).2=0/\revP (doP u d).1 (invP u d).1=(u,0):=by
 obtain⟨hv,hr⟩:=fz h d
 have hinv:invP u d=(mkPt u d (one u d.it.at_).1,0):=by unfold invP;rw[if_neg (by simp[hok])]
 rw[hinv]
 refine⟨rfl,?_⟩
 simp only
 by_cases k0:d.it.kind=0
 ·have e:=undo_ins h h0 k0 hok ha
  unfold mkPt
  rw[if_pos k0]
  unfold revP
  simp only
  rw[if_pos trivial,e]
 have hok':=hok
 unfold doP at hok hv hr ⊢
 by_cases c1:chg d.it.kind=false\/d.it.may=false
 ·rw[if_pos c1]at hok;cases hok
 rw[if_neg c1]at hok hv hr ⊢
 by_cases c2:(one u d.it.at_).2≠0
 ·rw[if_pos c2]at hok;exact absurd hok c2
 rw[if_neg c2,if_neg k0]at hok hv hr ⊢
 by_cases c3:(one u d.it.at_).1=u.id
 ·rw[if_pos c3]at hok
  split at hok
  ·rename_i c;exact absurd hok c.2
  ·cases hok
 rw[if_neg c3]at hok hv hr ⊢
 have hi:=bZ (u:=u) (p:=d.it.at_) (by simpa using c2)
 have hne:u.id≠(one u d.it.at_).1:=λe=>c3 e.symm
 have hk:=(fB h h0 hi hne).2
 obtain⟨l1,l2,l3⟩:=fp (h.node _ (aP u h.nd hi)) hk
 obtain⟨i,hie⟩:∃i,(one u d.it.at_).1=i:=⟨_,rfl⟩
 rw[hie]at hok hv hr hi hne hk l1 l2 l3 ⊢
 unfold mkPt
 rw[if_neg k0]
 by_cases k1:d.it.kind=1
 ·rw[if_pos k1]
  rw[if_pos k1]at hok hv hr ⊢
  unfold revP
  simp only
  rw[if_neg (by decide),if_pos trivial]
  exact undo_del h h0 hi hne
 rw[if_neg k1]at hok hv hr ⊢
 rw[if_neg k1]
 by_cases k2:d.it.kind=2\/d.it.kind=3
 ·rw[if_pos k2]
  rw[if_pos k2]at hok hv hr ⊢
  by_cases c4:(bJ (fnd i u).words d.it d.act d.item).2≠0
  ·rw[if_pos c4]at hok;exact absurd hok c4
  rw[if_neg c4]at hv hr ⊢
  unfold revP
  simp only
  rw[if_neg (by decide),if_neg (by decide),if_neg (by decide),if_neg (by decide),if_pos trivial]
  exact undo_wr (f:=λy=>{y with words:=(bJ (fnd i u).words d.it d.act d.item).1}) (g:=λy=>{y with words:=(fnd i u).words}) h h0 hi hne (λ_=>rfl) (λ_=>rfl) (by cases fnd i u;rfl) hv hr l3
 rw[if_neg k2]at hok hv hr ⊢
 rw[if_neg k2]
 by_cases k4:d.it.kind=4
 ·rw[if_pos k4]
  rw[if_pos k4]at hok hv hr ⊢
  unfold revP
  simp only
  rw[if_neg (by decide),if_neg (by decide),if_neg (by decide),if_neg (by decide),if_neg (by decide),if_pos trivial]
  exact undo_wr (f:=λy=>{y with head:=aX d.act d.item d.it.new 0}) (g:=λy=>{y with head:=(fnd i u).head}) h h0 hi hne (λ_=>rfl) (λ_=>rfl) (by cases fnd i u;rfl) hv hr l2
 rw[if_neg k4]at hok hv hr ⊢
 rw[if_neg k4]
 by_cases k5:d.it.kind=5
 ·rw[if_pos k5]
  rw[if_pos k5]at hok hv hr ⊢
  by_cases c4:dR (parR i u).1 (parR i u).1.kids {fnd i u with label:=d.it.label}=10
  ·rw[if_pos c4]at hok;cases hok
  rw[if_neg c4]at hv hr ⊢
  unfold revP
  simp only
  rw[if_neg (by decide),if_neg (by decide),if_neg (by decide),if_pos trivial]
  have hnest:nests (parR i u).1.kind (fnd i u).kind=true:=by
   obtain⟨own,dd,j,w1,w2,hp⟩:=bt h.nd hi hne
   rw[w2]
   exact(back h h0 hi hne w1 hp).nest
  refine undo_rel h h0 hi hne ?_ hv hr
  unfold dR at c4
  simp only at c4
  rw[if_neg (by rw[hnest];simp)]at c4
  split at c4
  ·exact absurd rfl c4
  ·rename_i c;simpa using c
 rw[if_neg k5]at hok hv hr ⊢
 rw[if_neg k5]
 by_cases c5:(one u d.it.to_).2≠0
 ·rw[if_pos c5]at hok;exact absurd hok c5
 rw[if_neg c5]at hok hv hr ⊢
 have ht:=bZ (u:=u) (p:=d.it.to_) (by simpa using c5)
 unfold movP at hok hv hr ⊢
 rcases e1:dY u i (one u d.it.to_).1 d.it.wh with _|⟨q,k⟩
 ·simp only[e1]at hok;cases hok
 simp only[e1]at hok hv hr ⊢
 have hwh:0<=d.it.wh/\d.it.wh<=3:=by
  rw[not_or]at c1
  have hc:chg d.it.kind=true:=by simpa using c1.1
  unfold chg at hc
  simp only[Bool.and_eq_true,decide_eq_true_eq]at hc
  exact fd (by simpa using c1.2) (.inr (by omega))
 have hq:=goes_in h hi hne ht hwh.1 hwh.2 e1
 split at hok
 ·rename_i c;exact absurd hok c
 rename_i c6
 rw[if_neg c6]at hv hr ⊢
 split at hok
 ·cases hok
 rename_i c7
 rw[if_neg c7]at hv hr ⊢
 unfold revP
 simp only
 rw[if_neg (by decide),if_neg (by decide),if_pos trivial]
 exact undo_mov h h0 hi hne hq rfl hv hr
/-! ### the reference -/
theorem fit_mem {u:U} {q:Idd} {k:Int} {x:U} (h:en u q k x=0):q∈u.ids:=by
 unfold en at h
 split at h
 ·cases h
 split at h
 ·cases h
 ·rename_i c;simpa using c
theorem fA {n:Int} (h0:0<=n) (h1:n<10):Lib.itoa n=[UInt8.ofNat (48+n.toNat)]:=by
 unfold Lib.itoa
 rw[if_neg (by omega),Lib.decDigits_one (by omega)]
/-! ### the texts of patches -/
def idTx (i:Idd):List UInt8:=Lib.itoa i.act++(46::(Lib.itoa i.item++(46::Lib.itoa i.n)))
def allU:U->List Dd->U×List Pt
 |u,[]=>(u,[])
 |u,d::l=>if chg d.it.kind=false\/(invP u d).2≠0 then allU u l else ((allU (doP u d).1 l).1,(invP u d).1::(allU (doP u d).1 l).2)
theorem allU_nil (u:U):allU u []=(u,[]):=rfl
theorem ln (u:U) (d:Dd) (l:List Dd):allU u (d::l)=if chg d.it.kind=false\/(invP u d).2≠0 then allU u l else ((allU (doP u d).1 l).1,(invP u d).1::(allU (doP u d).1 l).2):=rfl
theorem inv_err (u:U) (d:Dd):(invP u d).2=(doP u d).2:=by
 unfold invP
 split
 ·rfl
 ·rename_i c;simp only[ne_eq,Classical.not_not]at c;rw[c]
theorem iY:∀{l:List Dd} {u:U},Good u->u.kind=0->Good (allU u l).1/\(allU u l).1.kind=0
 |[],u,h,h0=>⟨h,h0⟩
 |d::l,u,h,h0=>by
  rw[ln]
  split
  ·exact iY h h0
  ·obtain⟨g1,g2⟩:=fz h d
   exact iY (u:=(doP u d).1) g1 (g2.kind.trans h0)
def Pt.cs (p:Pt):List AV:=[.int .i64 p.kind,.int .i64 p.at_,.int .i64 p.id.act,.int .i64 p.id.item,.int .i64 p.id.n,.int .i64 p.parent.act,.int .i64 p.parent.item,.int .i64 p.parent.n,.int .i64 p.unit.id.act,.int .i64 p.unit.id.item,.int .i64 p.unit.id.n,.int .i64 p.unit.kind,.str p.unit.label,.lst 4 (p.unit.head.map Wd.cs),.lst 4 (p.unit.words.map Wd.cs),.lst 8 (p.unit.kids.map U.cs),.str p.label,.lst 4 (p.words.map Wd.cs)]
theorem Pt.cs_len (p:Pt):p.cs.length=18:=rfl
def saidP (l:List Wd):List UInt8:=(l.map λw=>32::w.text).flatten
def fromP (p:Pt):List UInt8:=idTx p.id++([32,102,114,111,109,32]++(idTx p.parent++([32,97,116,32]++Lib.itoa p.at_)))
def fmtP (p:Pt):List UInt8:=
 if p.kind=0 then [105,110,115,101,114,116,101,100,32]++idTx p.id
 else if p.kind=1 then [114,101,109,111,118,101,100,32]++fromP p
 else if p.kind=2 then [109,111,118,101,100,32]++fromP p
 else if p.kind=3 then [108,97,98,101,108,32]++(idTx p.id++([32,119,97,115,32]++p.label))
 else if p.kind=4 then [119,111,114,100,115,32]++(idTx p.id++([32,119,101,114,101]++saidP p.words))
 else if p.kind=5 then [104,101,97,100,105,110,103,32]++(idTx p.id++([32,119,97,115]++saidP p.words))
 else []
theorem fmt_zero:fmtP zPt=[105,110,115,101,114,116,101,100,32,48,46,48,46,48]:=by
 unfold fmtP zPt
 rw[if_pos rfl]
 unfold idTx zId
 rw[fA (by decide) (by decide)]
 rfl
theorem ez {u:U} (h:Good u) (h0:u.kind=0) {d:Dd} (ha:1<=d.act):
  (invP u d).2=(doP u d).2/\((doP u d).2≠0->fmtP (invP u d).1=[105,110,115,101,114,116,101,100,32,48,46,48,46,48])/\((doP u d).2=0->revP (doP u d).1 (invP u d).1=(u,0)):=by
 refine⟨inv_err u d,λe=>?_,λe=>(undo_one h h0 e ha).2⟩
 unfold invP
 rw[if_pos e]
 exact fmt_zero
theorem ce {G:Glob} {P:Program} {f:Value} {args:List AV} {σ0 σ:Store} {K:AV->Store->Prop} {t:Tag K} {v:AV}
  (h:cd G P f args σ0 λr σ'=>r=v/\σ'=σ0) (hs:SubN σ0 σ) (hk:K v σ):CALL G P f args σ K t:=
 aZ σ [] (h.keepIn hs) (ax.rfl' _) (by rw[append_nil];exact SubN.refl _) (by rintro _ _ ⟨rfl,rfl⟩;rw[append_nil];exact hk)
def hasP (i:Idd) (u:U):Bool:=decide (i∈u.ids)
theorem has_way (i:Idd) (u:U):(U.way i u).isEmpty= !hasP i u:=by
 unfold hasP
 by_cases h:i∈u.ids
 ·rw[fG h,decide_eq_true h];rfl
 ·rw[(cO u).2 h,decide_eq_false h];rfl
def cc:List (Value×Bool×Int)->Int
 |[]=>0
 |x::l=>if x.2.1 then x.2.2 else cc l
def ckRow (x:Value×Bool×Int):List AV:=[.sc x.1,.int .i64 x.2.2]
section
variable (G:Glob)
theorem f86p (l:List Wd) (hl:l.length<1000000):Pure G Tryz.prog 86 [.lst 4 (l.map Wd.cs)] (.lst 4 (l.map Wd.cs)):=
 ag.freezeL (R1:=λσ=>σ=[]) (ag.mono (f86 G l hl) λr σ' h=>⟨σ',[],h,by simp,rfl⟩)
theorem f113 (i:Idd) (u:U) (hs:u.Short):Pure G Tryz.prog 113 [.agg u.cs,.agg i.cs] (.bool (hasP i u)):=by
 have hF:=f44 G i u hs
 unfold gV at hF
 rw[has_way]at hF
 simp only[Idd.cs]at hF
 refine Pure.w c113 λR hR=>?_
 unfold s113 r113
 cases h:hasP i u with
 |false=>
  rw[h]at hF hR
  simp only[Bool.not_false,if_true]at hF
  (repeat' (first|(with_reducible refine aa hF ?_)|simp only[EVz,seval,↓reduceIte,EV6,EV7]|(with_reducible intro blk hblk;(try(have hnx:=hblk;simp only[EVK]at hnx;(have hne:=hnx))))|fail))
  all_goals exact RQ hR
 |true=>
  rw[h]at hF hR
  simp only[Bool.not_true,Bool.false_eq_true,if_false]at hF
  (repeat' (first|(with_reducible refine aa hF ?_)|simp only[EVz,seval,↓reduceIte,EV6,EV7]|(with_reducible intro blk hblk;(try(have hnx:=hblk;simp only[EVK]at hnx;(have hne:=hnx))))|fail))
  all_goals exact RQ hR
theorem f124 (i:Idd) (u:U) (hs:u.Short):Pure G Tryz.prog 124 [.agg u.cs,.agg i.cs] (.int .i64 ((anc i u).length:Nat)):=by
 have hA:=f214 G i u hs.1
 simp only[Idd.cs]at hA
 refine Pure.w c124 λR hR=>?_
 unfold s124 r124
 (repeat' (first|(with_reducible refine aa hA ?_)|simp only[EVz,seval,↓reduceIte,EV6,EV7]|fail))
 all_goals exact hR _ _ (.inl (.inl (by simp)))
theorem f216 (bk bs:Nat) (k:Int) (s:List UInt8) (x:U):
  ag G Tryz.prog 216 [.agg x.cs,.sc (.pointer (some ⟨bk,0,none⟩)),.sc (.pointer (some ⟨bs,0,none⟩))] [(bk,.cells 3 [.int .i64 k]),(bs,.cells 9 [.str s])] λr σ'=>r= .bool (decide (x.kind=k)&&decide (x.label=s))/\σ'=[(bk,.cells 3 [.int .i64 k]),(bs,.cells 9 [.str s])]:=by
 refine ag.wn c216 λhnd=>?_
 have q1:¬bk=bs:=by simp[Store.keys]at hnd;exact hnd
 have q2:¬bs=bk:=λe=>q1 e.symm
 unfold s216 r216
 rw[U.cs_eq x]
 (repeat' (first|(with_reducible (refine ai (λh=>?_) (λh=>?_))<;>(try simp only[Da,Db,Dc,Dw,De,Df,Dg,Dh]at h))|simp only[EVz,seval,↓reduceIte,EV6,EV7,q1,q2]|fail))
 all_goals(refine RET.mk (SubN.refl _) ⟨?_,rfl⟩;simp[h])
theorem f128 (l:List U) (k:Int) (s:List UInt8) (hl:l.length<1000000):Pure G Tryz.prog 128 [.lst 8 (l.map U.cs),.int .i64 k,.str s] (.bool (taken l k s)):=by
 refine Pure.w c128 λR hR=>?_
 unfold s128 r128
 unfold taken at hR
 have hF:=λbk bs=>f215k G [(bk,.cells 3 [.int .i64 k]),(bs,.cells 9 [.str s])] (.func (.func 216) #[] #[.pointer (some ⟨bk,0,none⟩),.pointer (some ⟨bs,0,none⟩)]) (λx=>decide (x.kind=k)&&decide (x.label=s)) l (by omega)
   (λy hy=>⟨_,_,_,rfl,f216 G bk bs k s y⟩)
 (repeat' (first|simp only[EVz,seval,↓reduceIte,EV6,EV7,hne]|simp only[EVz,seval,↓reduceIte,EV6,EV7]|(with_reducible intro blk hblk;(try(have hnx:=hblk;simp only[EVK]at hnx;first|(have hne:=AI hnx hne)|(have hne:=hnx))))|(refine ce (hF _ _).v (SubN.perm (List.Perm.swap _ _ _)) ?_)|fail))
 all_goals exact RQ hR
theorem f199 (i:Idd):Pure G Tryz.prog 199 [.agg i.cs] (.bool (decide (i=zId))):=by
 refine Pure.w c199 λR hR=>?_
 unfold s199 r199
 (repeat' (simp only[EVz,seval,↓reduceIte,EV6,EV7,idd_zero]))
 all_goals exact RQ hR
end
section
variable (G:Glob) (hG:GOk G)
include hG
theorem f111 (u:U) (hs:u.Short):Pure G Tryz.prog 111 [.agg u.cs] (.bool (stP u)):=by
 have hI:=f149 G u hs.1
 have hV:=f200 G hG u hs
 have hul:u.ids.length<100000000:=by unfold U.ids;rw[length_map];have:=hs.1.2;omega
 have hpos:1<=u.ids.length:=by rw[U.ids_eq];simp
 obtain⟨l,hl⟩:∃l,(if u.kind=0 then u.ids.drop 1 else u.ids)=l:=⟨_,rfl⟩
 have hll:l.length<100000000:=by rw[←hl];split;(rw[length_drop];omega);exact hul
 have hC:=f150k G [] (.func (.func 199) #[] #[]) (λi=>decide (i=zId)) l (by omega)
   (λy hy=>(f199 G y).v)
 refine Pure.w c111 λR hR=>?_
 unfold s111 r111
 unfold stP at hR
 rw[hl]at hR
 obtain⟨t,ht⟩:∃t,treeOk2 u=t:=⟨_,rfl⟩
 rw[ht]at hV hR
 rw[U.cs_eq u]at hI hV ⊢
 by_cases h0:u.kind=0
 ·rw[if_pos h0]at hl
  have hd:(u.ids.map Idd.cs).drop 1=l.map Idd.cs:=by rw[←hl,map_drop]
  have hlt:List.take u.ids.length (u.ids.map Idd.cs)=u.ids.map Idd.cs:=take_of_length_le (by simp)
  (repeat' (first|(with_reducible (first|refine ab (λh=>?_) (λh=>?_)|refine ai (λh=>?_) (λh=>?_))<;>(try simp only[Da,Db,Dc,Dw,De,Df,Dg,Dh]at h))|(with_reducible refine AI (by omega) ?_)|(with_reducible first|refine aa hI ?_|refine aa hV ?_)|simp only[EVz,seval,↓reduceIte,EV6,EV7,hlt,hd,length_map]|(refine ce hC.v (SubN.nil _) ?_)|(exfalso;omega)|fail))
  all_goals exact hR _ _ (.inl (.inl (by((simp[*];done)))))
 ·rw[if_neg h0]at hl
  subst hl
  (repeat' (first|(with_reducible (first|refine ab (λh=>?_) (λh=>?_)|refine ai (λh=>?_) (λh=>?_))<;>(try simp only[Da,Db,Dc,Dw,De,Df,Dg,Dh]at h))|(with_reducible refine AI (by omega) ?_)|(with_reducible first|refine aa hI ?_|refine aa hV ?_)|simp only[EVz,seval,↓reduceIte,EV6,EV7]|(refine ce hC.v (SubN.nil _) ?_)|(exfalso;omega)|fail))
  all_goals exact hR _ _ (.inl (.inl (by((simp[*];done)))))
end
theorem LeReps.at {xs ys:List AV} (h:LeReps xs ys):∀{σ:Store} {w:World} {a:Addr} {i:Nat},RepAt σ w a i xs->RepAt σ w a i ys:=by
 induction h with
 |nil=>intro σ w a i h;exact h
 |cons h1 h2 ih=>
  intro σ w a i h
  simp only[RepAt]at h ⊢
  obtain⟨⟨u,f,o,r⟩,g⟩:=h
  exact⟨⟨u,f,o,h1 _ _ _ r⟩,ih g⟩
theorem LeReps.length {xs ys:List AV} (h:LeReps xs ys):xs.length=ys.length:=by
 induction h with
 |nil=>rfl
 |cons _ _ ih=>rw[length_cons,length_cons,ih]
inductive LeRows:List (List AV)->List (List AV)->Prop
 |nil:LeRows [] []
 |cons {x y xs ys}:LeReps x y->LeRows xs ys->LeRows (x::xs) (y::ys)
theorem LeRows.length {xs ys:List (List AV)} (h:LeRows xs ys):xs.length=ys.length:=by
 induction h with
 |nil=>rfl
 |cons _ _ ih=>rw[length_cons,length_cons,ih]
theorem LeRows.rep {xs ys:List (List AV)} (h:LeRows xs ys):∀{σ:Store} {w:World} {a:Addr} {sz i:Nat},ar σ w a sz i xs->ar σ w a sz i ys:=by
 induction h with
 |nil=>intro σ w a sz i h;exact h
 |cons h1 h2 ih=>
  intro σ w a sz i h
  simp only[ar]at h ⊢
  obtain⟨g1,g2,g3⟩:=h
  exact⟨h1.length ▸ g1,h1.at g2,ih g3⟩
theorem LeRep.own {g:Option Nat} {e:TypeId} {sz:Nat} {xs ys:List (List AV)} (h:LeRows xs ys):LeRep (.own g e sz xs) (.lst sz ys):=λσ w u hr=>by
 cases g with
 |none=>
  simp only[Rep]at hr ⊢
  obtain⟨h1,rfl⟩:=hr
  cases h;exact .inl ⟨h1,rfl⟩
 |some b=>
  simp only[Rep]at hr ⊢
  obtain⟨cap,h1,h2,h3,_,h4⟩:=hr
  exact .inr ⟨_,cap,by rw[←h.length];exact h1,by rw[←h.length];exact h2,h3,h.rep h4⟩
theorem LeRep.agg {xs ys:List AV} (h:LeReps xs ys):LeRep (.agg xs) (.agg ys):=λσ w u hr=>by
 simp only[Rep]at hr ⊢
 obtain⟨vs,e,o,hr⟩:=hr
 exact⟨vs,e,o,h.rep hr⟩
theorem LeRep.nil {sz:Nat}:LeRep .nil (.lst sz []):=λσ w u hr=>by
 simp only[Rep]at hr ⊢
 exact .inl ⟨hr,trivial⟩
theorem Pure.lr {G:Glob} {P:Program} {k:FuncId} {args args':List AV} {r:AV} (h:Pure G P k args' r) (ha:LeReps args args'):Pure G P k args r:=⟨h.1,λρ w vs hS hA=>h.2 ρ w vs hS (ha.rep hA)⟩
theorem W_tail2 {G:Glob} {P:Program} {a b X:SCode} {Q:Exit->Env->Store->Prop} {tQ:Tag Q} {env:Env} {σ:Store} (h:∀Y,Y=X->W G P (.seq a (.seq b Y)) Q env σ ⟨⟩):W G P (.seq a (.seq b X)) Q env σ tQ:=h X rfl
section
variable {G:Glob} {P:Program} {env:Env} {σ:Store} {K:Env->Store->Prop} {tK:Tag K}
end
end Go.Av
