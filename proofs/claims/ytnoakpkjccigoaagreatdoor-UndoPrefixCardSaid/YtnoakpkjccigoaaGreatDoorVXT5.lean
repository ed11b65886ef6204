/-
  UNDO LAWS, 4: items applied, and all their patches taken back.
-/
import Derived.Test.YtnoakpkjccigoaaGreatDoorVXT1toXT4
import Derived.Test.YtnoakpkjccigoaaGreatDoorVXV16
import Derived.Test.YtnoakpkjccigoaaGreatDoorVXM31toXM33
namespace Go.Av
open Go Go.RowKit Go.Proofs List
set_option linter.unusedSimpArgs false
set_option linter.unusedVariables false
theorem rm:∀u:U,u.Short->u.fit:=U.ind λu ih h=>by
 obtain⟨E,J,M,F,I⟩:=h.2 u (U.flat_self u)
 have D:=h.1.kids
 exact(U.fit_eq u).2 ⟨E,⟨by show _<_;omega,F⟩,⟨by show _<_;omega,I⟩,by show _<_;omega,λk D=>ih k D (h.kid D)⟩
def Chain (q:U×List Pt) (u:U):Prop:=∃st:Nat->U,st 0=q.1/\st q.2.length=u/\(∀k,k<=q.2.length->Good (st k)/\(st k).kind=0)/\∀k (hk:k<q.2.length),revP (st k) (q.2[q.2.length-1-k]'(by omega))=(st (k+1),0)
theorem rC:∀{l:List Dd} {u:U},Good u->u.kind=0->(∀d∈l,1<=d.act)->Chain (allU u l) u
 |[],u,h,h0,_=>⟨λ_=>u,rfl,rfl,λ_ _=>⟨h,h0⟩,λk E=>absurd E (Nat.not_lt_zero k)⟩
 |d::l,u,h,h0,ha=>by
  rw[ln]
  by_cases c:chg d.it.kind=false\/(invP u d).2≠0
  ·rw[if_pos c]
   exact rC h h0 λx J=>ha x (mem_cons_of_mem _ J)
  ·rw[if_neg c]
   rw[not_or]at c
   have I:(doP u d).2=0:=by rw[←rz];simpa using c.2
   obtain⟨V,N⟩:=sf h h0 I (ha d mem_cons_self)
   obtain⟨O,T⟩:=rd h d
   obtain⟨st,s1,s2,s3,s4⟩:=rC (l:=l) (u:=(doP u d).1) O (T.kind.trans h0) λx J=>ha x (mem_cons_of_mem _ J)
   generalize allU (doP u d).1 l=q at*
   refine⟨λk=>if k<=q.2.length then st k else u,by simp[s1],if_neg (by simp),λk E=>?_,λk E=>?_⟩
   ·by_cases D:k<=q.2.length
    ·simp only[if_pos D];exact s3 k D
    ·simp only[if_neg D];exact⟨h,h0⟩
   ·simp only[length_cons]at E
    by_cases D:k<q.2.length
    ·have M:k<=q.2.length:=by omega
     have F:k+1<=q.2.length:=by omega
     simp only[if_pos M,if_pos F]
     rw[←s4 k D]
     have e:(q.2.length+1-1-k)=(q.2.length-1-k)+1:=by omega
     simp only[length_cons,e,getElem_cons_succ]
    ·have e:k=q.2.length:=by omega
     subst e
     have F:¬q.2.length+1<=q.2.length:=by omega
     simp only[Nat.le_refl,if_true,if_neg F,s2]
     simp only[length_cons,Nat.add_sub_cancel,Nat.sub_self,getElem_cons_zero]
     exact N
theorem rh:∀{l:List Dd} {u:U},Good u->∀p∈(allU u l).2,p.unit.Short/\p.unit.flat.length<=1000000/\p.words.length<1000000
 |[],u,_,p,hp=>by cases hp
 |d::l,u,h,p,hp=>by
  rw[ln]at hp
  split at hp
  ·exact rh h p hp
  ·rcases mem_cons.1 hp with rfl|hp
   ·exact undo_unit h d
   ·exact rh (rd h d).1 p hp
theorem rB:∀(l:List Dd) (u:U),(allU u l).2.length<=l.length
 |[],u=>Nat.le_refl _
 |d::l,u=>by
  rw[ln]
  split
  ·have:=rB l u;simp only[length_cons];omega
  ·have:=rB l (doP u d).1;simp only[length_cons];omega
section
variable (G:Glob) (hG:GOk G)
include hG
theorem rp {u:U} (h:Good u) (D:u.kind=0) (l:List Dd) (F:l.length<1000000) (E:∀d∈l,1<=d.act):Pure G Tryz.prog 20 [.agg (allU u l).1.cs,.lst 18 ((allU u l).2.map Pt.cs)] (aO (u,0)):=by
 obtain⟨st,s1,s2,s3,s4⟩:=rC h D E
 have:=f20 G hG (allU u l).2 st s4 s3 (rh h) (by have:=rB l u;omega)
 rw[s1,s2]at this
 exact this
end
section
variable (G:Glob) (hG:GOk G) (hG2:GOk2 G)
include hG hG2
set_option maxHeartbeats 8000000 in
theorem f8 (u:U) (M:u.fit) (l:List Dd) (hl:l.length<1000000000000000000) (hb:∀d∈l,d.it.big):Pure G Tryz.prog 8 [.agg u.cs,.lst 28 (l.map Dd.cs)] (.bool true):=by
 have hf:∀d∈l,d.it.fit:=λd hd=>rU d.it (hb d hd)
 have Y:=f10 G hG hG2
 have N:=f13 G u M l hl hf
 cases h1:rH u l with
 |false=>
  rw[h1]at N
  refine Pure.w c8 λR hR=>?_
  unfold s8 r8
  (repeat' (first|(with_reducible (first|refine ab (λh=>?_) (λh=>?_)|refine ai (λh=>?_) (λh=>?_)|refine aj (λh=>?_) (λh=>?_))<;>(try simp only[DZ]at h))|(with_reducible first|refine AI (by omega) ?_|refine aa Y ?_|refine aa N ?_)|simp only[EVz,seval,↓reduceIte,EV6,EV7,D]|simp only[EVz,seval,↓reduceIte,EV6,EV7]|(with_reducible intro J F;(try(have E:=F;simp only[EVK]at E;first|(have D:=AI E D)|(have D:=E))))|(with_reducible first|refine ae ?_ ?_|refine af ?_)|(exfalso;omega)))
  all_goals exact RQ hR
 |true=>
 rw[h1]at N
 obtain⟨hg,al,h8,an,ha⟩:=oP M hf h1
 have hA:=f19 G hG u hg l (by omega) an
 have hE:=f22 G hG u hg l (by omega) an
 obtain⟨q1,q2⟩:=rR (l:=l) (u:=u)
 have hB:=rp G hG hg al l (by omega) ha
 have ac:=f16 G (allU u l).1 (rm _ (iY hg al).1.short) (allU u l).1
 have ah:=f16 G u M u
 rw[decide_eq_true rfl]at ac ah
 unfold mb at hA
 unfold allAV at hE
 unfold aO at hB
 rw[←q1]at hE
 have V:=U.cs_len (allU u l).1
 have X:(allU u l).1.cs.take 8=(allU u l).1.cs:=take_of_length_le (by omega)
 have O:=U.cs_len u
 have T:u.cs.take 8=u.cs:=take_of_length_le (by omega)
 have bd:=rB l u
 generalize (allU u l).1.cs=vs at*
 generalize (allU u l).2=ps at*
 generalize (allP u l).2=ms at*
 have bb:(l.filter λd=>chg d.it.kind).length<=l.length:=length_filter_le _ _
 have aw:IntKind.i64.wrap ((ps.length:Int)+(ms.length:Int))=((l.filter λd=>chg d.it.kind).length:Int):=by rw[aA (by omega) (by omega)];omega
 have e2:decide (((l.filter λd=>chg d.it.kind).length:Int)≠((l.filter λd=>chg d.it.kind).length:Int))=false:=decide_eq_false (λh=>h rfl)
 refine Pure.w c8 λR hR=>?_
 unfold s8 r8
 (repeat' (first|(with_reducible (first|refine ab (λh=>?_) (λh=>?_)|refine ai (λh=>?_) (λh=>?_)|refine aj (λh=>?_) (λh=>?_))<;>(try simp only[DZ]at h))|(with_reducible first|refine AI (by omega) ?_|refine aa Y ?_|refine aa N ?_|refine aa hA ?_|refine aa hE ?_)|simp only[EVz,seval,↓reduceIte,EV6,EV7,V,X,O,T,D]|simp only[EVz,seval,↓reduceIte,EV6,EV7,V,X,O,T]|(with_reducible intro J F;(try(have E:=F;simp only[EVK]at E;first|(have D:=AI E D)|(have D:=E))))|(with_reducible first|refine ae ?_ ?_|refine af ?_)|(exfalso;omega)))
 rename_i b5 _ _ _
 generalize J=b7 at*
 refine ay (ι:=Int) l (λi r c=>c+((r.filter λd=>chg d.it.kind).length:Int)=((l.filter λd=>chg d.it.kind).length:Int)/\0<=c) (λi c=>[(2,.ref u.cs),(5,.sc (.pointer (some ⟨b5,0,none⟩))),(6,.lst 18 (ps.map Pt.cs)),(7,.sc (.pointer (some ⟨b7,0,none⟩))),(8,.lst 3 (ms.map Ms.cs)),(9,.int .i64 c),(31,.lst 28 (l.map Dd.cs)),(32,.int .i64 l.length),(33,.int .i64 i)]) (λ_ _=>[(b7,.cells 27 vs),(b5,.cells 27 vs)]) 0 ⟨by simp,by omega⟩ (Weak.rfl' _ _) (by omega) (λi x r c Z I hw=>?_) (λc Z hn=>?_)
 ·obtain⟨o1,o2⟩:=Z
  have hC:=f23 G x.it.kind
  cases hc:chg x.it.kind with
  |false=>
   rw[hc]at hC
   rw[filter_cons_of_neg (by simp[hc])]at o1
   (repeat' (first|(with_reducible (first|refine ab (λh=>?_) (λh=>?_)|refine ai (λh=>?_) (λh=>?_)|refine aj (λh=>?_) (λh=>?_))<;>(try simp only[DZ]at h))|(with_reducible first|refine AI (by omega) ?_|refine aa hC ?_)|simp only[EVz,seval,↓reduceIte,EV6,EV7,I.yes,I.le0,I.lt',I.get,I.row,hw,Dd.cs,Itm.cs_eq,D]|simp only[EVz,seval,↓reduceIte,EV6,EV7,I.yes,I.le0,I.lt',I.get,I.row,hw,Dd.cs,Itm.cs_eq]|(with_reducible intro J F;(try(have E:=F;simp only[EVK]at E;first|(have D:=AI E D)|(have D:=E))))|(with_reducible first|refine ae ?_ ?_|refine af ?_)|(exfalso;omega)))
   all_goals exact ap I c ⟨o1,o2⟩ (Weak.sub (SubN.tail (SubN.refl _) _))
  |true=>
   rw[hc]at hC
   rw[filter_cons_of_pos (by simp[hc]),length_cons]at o1
   have ba:IntKind.i64.wrap (c+1)=c+1:=aA (by omega) (by omega)
   (repeat' (first|(with_reducible (first|refine ab (λh=>?_) (λh=>?_)|refine ai (λh=>?_) (λh=>?_)|refine aj (λh=>?_) (λh=>?_))<;>(try simp only[DZ]at h))|(with_reducible first|refine AI (by omega) ?_|refine aa hC ?_)|simp only[EVz,seval,↓reduceIte,EV6,EV7,I.yes,I.le0,I.lt',I.get,I.row,hw,ba,Dd.cs,Itm.cs_eq,D]|simp only[EVz,seval,↓reduceIte,EV6,EV7,I.yes,I.le0,I.lt',I.get,I.row,hw,ba,Dd.cs,Itm.cs_eq]|(with_reducible intro J F;(try(have E:=F;simp only[EVK]at E;first|(have D:=AI E D)|(have D:=E))))|(with_reducible first|refine ae ?_ ?_|refine af ?_)|(exfalso;omega)))
   all_goals exact ap I (c+1) ⟨by omega,by omega⟩ (Weak.sub (SubN.tail (SubN.refl _) _))
 ·obtain⟨o1,o2⟩:=Z
  have hc:c=((l.filter λd=>chg d.it.kind).length:Int):=by simpa using o1
  subst hc
  (repeat' (first|(with_reducible (first|refine ab (λh=>?_) (λh=>?_)|refine ai (λh=>?_) (λh=>?_)|refine aj (λh=>?_) (λh=>?_))<;>(try simp only[DZ]at h))|(with_reducible first|refine AI (by omega) ?_|refine aa Y ?_|refine aa ac ?_|refine aa hB ?_|refine aa ah ?_)|simp only[EVz,seval,↓reduceIte,EV6,EV7,hn,aw,e2,V,X,O,T,D]|simp only[EVz,seval,↓reduceIte,EV6,EV7,hn,aw,e2,V,X,O,T]|(with_reducible intro J F;(try(have E:=F;simp only[EVK]at E;first|(have D:=AI E D)|(have D:=E))))|(with_reducible first|refine ae ?_ ?_|refine af ?_)|(exfalso;omega)))
  all_goals exact RQ hR
end
end Go.Av
