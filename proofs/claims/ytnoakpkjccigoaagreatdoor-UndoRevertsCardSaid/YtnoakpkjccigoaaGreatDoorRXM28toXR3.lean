/-
  ENACT, M28: a unit put in.
-/
import Derived.Test.YtnoakpkjccigoaaGreatDoorRXM19toXM27
import Derived.Test.YtnoakpkjccigoaaGreatDoorRXM26toXV3
import Derived.Test.YtnoakpkjccigoaaGreatDoorRXU8toXAv31
namespace Go.Av
open Go Go.RowKit Go.Proofs List
set_option linter.unusedSimpArgs false
set_option linter.unusedVariables false
theorem pa {G:Glob} {P:Program} {f:Value} {args:List AV} {x:Nat×AObj} {σ:Store} {K:AV->Store->Prop} {t:Tag K} {v:AV}
  (h:cd G P f args [x] λr σ'=>r=v/\σ'=[x]) (D:K v (x::σ)):CALL G P f args (x::σ) K t:=
 aZ [x] σ h (ax.rfl' _) (SubN.refl _) (by rintro _ _ ⟨rfl,rfl⟩;exact D)
theorem spot_le {u:U} (h:Good u) {i q:Idd} {wh:Int} {k:Nat} (e:spot u i wh=some (q,k)):k<=(fnd q u).kids.length:=by
 unfold spot at e
 split at e
 ·injection e with e;injection e with D E;omega
 ·split at e
  ·injection e with e;injection e with D E;subst D;omega
  ·obtain⟨⟨p,d,j⟩,D,E⟩:=Option.map_eq_some_iff.1 e
   obtain⟨F,J,I⟩:=ei h i _ D
   injection E with e3 e4
   subst e3
   rw[I.fnd]
   show k<=p.kids.length
   change j<p.kids.length at F
   simp only at e4
   split at e4<;>omega
theorem mh {u:U} {q:Idd} (D:q∈u.ids):(anc q u).length+1=(U.way q u).length:=by
 unfold anc
 rw[length_reverse,length_map,length_dropLast]
 have:=gH D
 omega
theorem SubN.six {n x a b c d:Nat×AObj}:SubN [n,x,a,b,c,d] [a,x,b,n,c,d]:=
 SubN.perm ((perm_middle (l₁:=[a,x,b]) (l₂:=[c,d])).trans (List.Perm.cons _ (List.Perm.swap _ _ _))).symm
section
variable (G:Glob) (hG:GOk G)
include hG
set_option maxHeartbeats 4000000 in
theorem f92 (u:U) (N:Good u) (y:U) (d:Dd) (i:Idd) (hO:one u d.it.at_=(i,0)) (ba:d.it.kind=0) (h0:0<=d.it.wh) (h3:d.it.wh<=3) (X:Unit0 d) (hp:d.it.at_.length<1000000) (bs:d.it.to_.length<1000000):
  Pure G Tryz.prog 92 [.agg u.cs,.agg y.cs,.agg d.cs] (aO (insP u i d)):=by
 have hs:=N.short
 have bm:=N.cnt
 have hi:i∈u.ids:=by have:=bZ (u:=u) (p:=d.it.at_);rw[hO]at this;exact this rfl
 have F:=f144 G u d.it hs bm N.nd (good_hk N) (nj N) (.inl ba) h0 h3 hp bs
 have al:dest u d.it=(match spot u i d.it.wh with|none=>.inr 9|some q=>.inl q):=by
  unfold dest
  rw[hO]
  simp[ba]
  rfl
 rw[al]at F
 unfold insP
 have Z:=λq k=>iy (q:=q) (k:=k) N.nd hi (wh:=d.it.wh)
 have Y:=λq k=>spot_le (q:=q) (k:=k) (i:=i) (wh:=d.it.wh) N
 obtain⟨z,hz⟩:∃z,spot u i d.it.wh=z:=⟨_,rfl⟩
 rw[hz]at F Z Y ⊢
 unfold cI at F
 unfold Dd.cs
 rw[U.cs_eq y]
 rcases z with _|⟨q,k⟩
 ·refine Pure.w c92 λR J=>?_
  unfold s92 r92
  unfold aO at J
  simp only at F J
  rw[Itm.cs_eq]at F ⊢
  (repeat' (first|(with_reducible refine aa F ?_)|simp only[EVz,seval,↓reduceIte,EV6,EV7,D]|simp only[EVz,seval,↓reduceIte,EV6,EV7]|(with_reducible intro O I;(try(have E:=I;simp only[EVK]at E;first|(have D:=AI E D)|(have D:=E))))))
  all_goals exact RQ J
 ·have hq:=Z q k rfl
  have bb:=Y q k rfl
  simp only at F ⊢
  have bu:=gc X.nodes (by have:=X.cnt;omega)
  have M:=f145 G d.it.unit d.act d.item bu (by have h1:=wt_le X.nodes;have h2:=X.cnt;omega)
  obtain⟨s1,s2,s3,s4,s5⟩:=je d.it.unit d.act d.item X.nodes
  obtain⟨x,hx⟩:∃x,cz d.it.unit d.act d.item=x:=⟨_,rfl⟩
  rw[hx]at M s1 s2 s3 s4 s5 ⊢
  have ac:x.Short:=gc s5 (by rw[s3];have:=X.cnt;omega)
  have V:=f44 G q u hs
  unfold gV at V
  rw[fG hq,if_neg (by simp)]at V
  have bp:=gq N q
  have ah:=mh hq
  have T:=f147 G u q x hs.1 ac.1
  have bd:=f148 G u hs.1
  have be:=f148 G x ac.1
  have bi:=f149 G u hs.1
  have bk:=f149 G x ac.1
  have hT:=f146 G hG (fnd q u) x (by omega)
  have d0:x.ids.length=x.flat.length:=by unfold U.ids;rw[length_map]
  have cp:u.ids.length=u.flat.length:=by unfold U.ids;rw[length_map]
  have cw:x.flat.length<=1024:=by rw[s3];exact X.cnt
  have ad:=λbh=>f150k G [(bh,.cells 115 [.lst 3 (u.ids.map Idd.cs)])] (.func (.func 151) #[] #[.pointer (some ⟨bh,0,none⟩)]) (λk=>decide (k∈u.ids)) x.ids (by omega)
   (λw _=>⟨_,_,_,rfl,f151 G bh u.ids w (by omega)⟩)
  have hW:=λbn bx=>f153 G _ _ _ q u hs N.nd hq (d154 G bn bx k x _ bb (by omega))
  have ch:(0:Int)<=x.cnt/\x.cnt<=1024:=by unfold U.cnt;omega
  have bw:(0:Int)<=u.cnt/\u.cnt<=1024:=by unfold U.cnt;omega
  have w3:IntKind.i64.wrap (u.cnt+x.cnt)=u.cnt+x.cnt:=aA (by omega) (by omega)
  rw[←ah]
  clear s1 s2 s4 al Z Y bp
  obtain⟨P,hP⟩:∃P,fnd q u=P:=⟨_,rfl⟩
  rw[hP]at V hT bb ⊢
  obtain⟨t,ht⟩:∃t,dR P P.kids x=t:=⟨_,rfl⟩
  rw[ht]at hT ⊢
  obtain⟨an,bl⟩:∃an,(anc q u).length=an:=⟨_,rfl⟩
  rw[bl]at T ⊢
  obtain⟨ex,bo⟩:∃ex,x.ids.any (λk=>decide (k∈u.ids))=ex:=⟨_,rfl⟩
  rw[bo]at ad ⊢
  simp only[Idd.cs]at V T hW
  rw[U.cs_eq P]at V hT
  unfold aO
  rw[show(((an+1:Nat):Int))=(an:Int)+1 by omega]
  refine Pure.w c92 λR J=>?_
  unfold s92 r92
  rw[Itm.cs_eq]at F ⊢
  rw[U.cs_eq d.it.unit]at M
  rcases Classical.em (t=0)with h|h
  ·subst h
   rw[if_neg (by simp)]at J
   (repeat' (first|(with_reducible (first|refine ab (λh=>?_) (λh=>?_)|refine ai (λh=>?_) (λh=>?_))<;>(try simp only[DZ]at h))|(with_reducible first|refine aa F ?_|refine aa V ?_|refine aa M ?_|refine aa hT ?_|refine aa T ?_|refine aa bd ?_|refine aa be ?_|refine aa bi ?_|refine aa bk ?_)|simp only[EVz,seval,↓reduceIte,EV6,EV7,w3,D]|simp only[EVz,seval,↓reduceIte,EV6,EV7,w3]|(with_reducible intro O I;(try(have E:=I;simp only[EVK]at E;first|(have D:=AI E D)|(have D:=E))))|(with_reducible first|refine ae ?_ ?_|refine af ?_)|(refine pa (ad O).v ?_)))
   all_goals try(
    refine J _ _ (.inl (.inl ?_))
    rw[if_pos (by first|exact .inl (by omega)|exact .inr (.inl (by omega))|exact .inr (.inr (by omega)))]
    done)
   all_goals
    have bq:¬(64<=P.kids.length\/8<(an:Int)+1+x.dep\/1024<u.cnt+x.cnt):=by omega
    rw[if_neg bq]at J
   all_goals try(
    refine J _ _ (.inl (.inl ?_))
    rw[if_pos (by assumption)]
    done)
   all_goals
    have aw:ex=false:=by assumption
    rw[aw]at J
    simp only[Bool.false_eq_true,if_false]at J
    refine aT [(_,_),(_,_)] [_,_,_,_] (hW _ _).v (ax.rfl' _) SubN.six (λr1 d1 hr cm=>?_)
    obtain⟨rfl,rfl⟩:=hr
    refine⟨_,SubN.refl _,?_⟩
    (repeat' (simp only[EVz,seval,↓reduceIte,EV6,EV7,D]))
    all_goals exact RQ J
  ·rw[if_pos h]at J
   (repeat' (first|(with_reducible (first|refine ab (λh=>?_) (λh=>?_)|refine ai (λh=>?_) (λh=>?_))<;>(try simp only[DZ]at h))|(with_reducible first|refine aa F ?_|refine aa V ?_|refine aa M ?_|refine aa hT ?_)|simp only[EVz,seval,↓reduceIte,EV6,EV7,h,D]|simp only[EVz,seval,↓reduceIte,EV6,EV7,h]|(with_reducible intro O I;(try(have E:=I;simp only[EVK]at E;first|(have D:=AI E D)|(have D:=E))))|(with_reducible first|refine ae ?_ ?_|refine af ?_)|(exfalso;omega)))
   all_goals exact RQ J
end
theorem cU (f:Value) (b:Bool) (e:Int) (l:List (Value×Bool×Int)):cc ((f,b,e)::l)=if b=true then e else cc l:=rfl
theorem p8 {u:U} {q:Idd} (D:q∈u.ids):lev u q=((anc q u).length:Int):=by
 have:=mh D
 unfold lev
 omega
theorem oo (u:U) (q:Idd) (k:Int) (x:U) (f1 f2 f3 f4 f5 f6:Value) (O:stP u=true) (T:stP x=true) (N:x.kind≠0):
  cc [(f1,!hasP q u,4),(f2,!pl (fnd q u).kind x.kind,9),(f3,(decide (k<0)||decide (((fnd q u).kids.length:Int)<k)),3),(f4,pn (fnd q u).kids x.kind x.label,10),
   (f5,(decide (64<=((fnd q u).kids.length:Int))||(decide (8<((anc q u).length:Int)+1+x.dep)||decide (1024<u.cnt+x.cnt))),6),(f6,x.ids.any (λy=>hasP y u),5)]=en u q k x:=by
 unfold en
 rw[if_neg (by rw[O,T];simp[N])]
 simp only[cU,cc]
 by_cases D:q∈u.ids
 ·have J:¬(!hasP q u)=true:=by simp[hasP,D]
  have M:¬q∉u.ids:=λh=>h D
  rw[if_neg J,if_neg M,p8 D]
  by_cases c1:pl (fnd q u).kind x.kind=false
  ·have E:(!pl (fnd q u).kind x.kind)=true:=by rw[c1];rfl
   rw[if_pos E,if_pos c1]
  have E:¬(!pl (fnd q u).kind x.kind)=true:=by simpa using c1
  rw[if_neg E,if_neg c1]
  by_cases c2:k<0\/((fnd q u).kids.length:Int)<k
  ·have F:(decide (k<0)||decide (((fnd q u).kids.length:Int)<k))=true:=by simpa using c2
   rw[if_pos F,if_pos c2]
  have F:¬(decide (k<0)||decide (((fnd q u).kids.length:Int)<k))=true:=by simpa using c2
  rw[if_neg F,if_neg c2]
  by_cases c3:pn (fnd q u).kids x.kind x.label=true
  ·rw[if_pos c3,if_pos c3]
  rw[if_neg c3,if_neg c3]
  by_cases c4:64<=(fnd q u).kids.length\/8<((anc q u).length:Int)+1+x.dep\/1024<u.cnt+x.cnt
  ·have I:(decide (64<=((fnd q u).kids.length:Int))||(decide (8<((anc q u).length:Int)+1+x.dep)||decide (1024<u.cnt+x.cnt)))=true:=by simp only[Bool.or_eq_true,decide_eq_true_eq];omega
   rw[if_pos I,if_pos c4]
  have I:¬(decide (64<=((fnd q u).kids.length:Int))||(decide (8<((anc q u).length:Int)+1+x.dep)||decide (1024<u.cnt+x.cnt)))=true:=by simp only[Bool.or_eq_true,decide_eq_true_eq];omega
  rw[if_neg I,if_neg c4]
  rfl
 ·have J:(!hasP q u)=true:=by simp[hasP,D]
  rw[if_pos J,if_pos D]
theorem rem_first (u:U) (i:Idd) (f1 f2 f3:Value):cc [(f1,!stP u,1),(f2,!hasP i u,4),(f3,decide (u.id=i),9)]=(remT u i).2:=by
 unfold remT
 simp only[cU,cc]
 cases N:stP u with
 |false=>rfl
 |true=>
  have I:¬(!true)=true:=by simp
  have E:¬(true=false):=by simp
  rw[if_neg I,if_neg E]
  by_cases hi:i∈u.ids
  ·have F:¬(!hasP i u)=true:=by simp[hasP,hi]
   have J:¬i∉u.ids:=λh=>h hi
   rw[if_neg F,if_neg J]
   by_cases D:u.id=i
   ·rw[if_pos (decide_eq_true D),if_pos D]
   ·have M:¬decide (u.id=i)=true:=by simpa using D
    rw[if_neg M,if_neg D]
  ·have F:(!hasP i u)=true:=by simp[hasP,hi]
   rw[if_pos F,if_pos hi]
theorem kf (u:U) (i q:Idd) (f1 f2:Value):cc [(f1,!stP u,1),(f2,(!hasP i u|| !hasP q u),4)]=(if stP u=false then 1 else if i∉u.ids\/q∉u.ids then 4 else 0):=by
 simp only[cU,cc]
 cases I:stP u with
 |false=>rfl
 |true=>
  have F:¬(!true)=true:=by simp
  have D:¬(true=false):=by simp
  rw[if_neg F,if_neg D]
  by_cases hi:i∉u.ids\/q∉u.ids
  ·have E:(!hasP i u|| !hasP q u)=true:=by simpa[hasP]using hi
   rw[if_pos hi,if_pos E]
  ·have E:¬(!hasP i u|| !hasP q u)=true:=by simpa[hasP]using hi
   rw[if_neg hi,if_neg E]
theorem kb (P x:U) (k:Int) (n:Int) (f1 f2 f3:Value):cc [(f1,(decide (k<0)||decide ((P.kids.length:Int)<k)),3),(f2,pn P.kids x.kind x.label,10),(f3,(decide (64<=(P.kids.length:Int))||decide (8<n+1+x.dep)),6)]
  =(if k<0\/(P.kids.length:Int)<k then 3 else if pn P.kids x.kind x.label=true then 10 else if 64<=P.kids.length\/8<n+1+x.dep then 6 else 0):=by
 simp only[cU,cc]
 by_cases c2:k<0\/(P.kids.length:Int)<k
 ·have D:(decide (k<0)||decide ((P.kids.length:Int)<k))=true:=by simpa using c2
  rw[if_pos D,if_pos c2]
 have D:¬(decide (k<0)||decide ((P.kids.length:Int)<k))=true:=by simpa using c2
 rw[if_neg D,if_neg c2]
 by_cases c3:pn P.kids x.kind x.label=true
 ·rw[if_pos c3,if_pos c3]
 rw[if_neg c3,if_neg c3]
 by_cases c4:64<=P.kids.length\/8<n+1+x.dep
 ·have E:(decide (64<=(P.kids.length:Int))||decide (8<n+1+x.dep))=true:=by simp only[Bool.or_eq_true,decide_eq_true_eq];omega
  rw[if_pos E,if_pos c4]
 ·have E:¬(decide (64<=(P.kids.length:Int))||decide (8<n+1+x.dep))=true:=by simp only[Bool.or_eq_true,decide_eq_true_eq];omega
  rw[if_neg E,if_neg c4]
theorem Pure.wL {G:Glob} {P:Program} {k:Nat} {g:List Nat} {D:List (Nat×Option (Bool×Nat))} {s:SCode} {args:List AV} {r:AV} (E:fnAt P k g=some (D,s))
  (h:∀R:AV->Store->Prop,(∀x σ,LeRep x r->RET x σ R)->W G P s (retQ D R) (cL 0 args) [] ⟨⟩):Pure G P k args r:=
 ag.toPure (R:=λx _=>LeRep x r) (ag.w E (h _ λx σ F=>⟨x,[],AVle.rfl' _,SubN.nil _,F⟩)) (λ_ _ h=>h)
theorem po:LeRep (.agg zU) (.agg noU.cs):=by
 refine LeRep.agg ?_
 rw[U.cs_eq]
 unfold zU noU
 repeat' first
  |exact LeReps.nil
  |refine LeReps.cons ?_ ?_
 all_goals first|exact LeRep.refl _|exact LeRep.nil
def fnds (j:Idd):List U->U
 |[]=>noU
 |k::us=>if j∈k.ids then fnd j k else fnds j us
theorem fnd_fnds {j:Idd} {u:U} (h:u.id≠j):fnd j u=fnds j u.kids:=by
 have key:∀us:List U,(U.ways j us).getLastD noU=fnds j us:=by
  intro us
  induction us with
  |nil=>rw[U.ways_nil];rfl
  |cons k us ih=>
   rw[U.ways_cons,fnds]
   by_cases E:j∈k.ids
   ·rw[if_pos E]
    cases D:U.way j k with
    |nil=>exact absurd E ((cO k).1 D)
    |cons x l=>
     unfold Go.Av.fnd
     rw[D];rfl
   ·rw[if_neg E,(cO k).2 E]
    simpa[orW]using ih
 unfold Go.Av.fnd
 rw[U.way_eq,if_neg h]
 cases D:U.ways j u.kids with
 |nil=>have:=key u.kids;rw[D]at this;simpa[fL]using this
 |cons x l=>have:=key u.kids;rw[D]at this;simpa[fL,getLastD_cons]using this
section
variable (G:Glob)
theorem f69 (j:Idd):∀(u:U),u.Tame->Pure G Tryz.prog 69 [.agg u.cs,.agg j.cs] (.tup [.agg (fnd j u).cs,.bool (hasP j u)]):=by
 refine U.ind λu ih ht=>?_
 have ad:=ht.kids
 by_cases O:u.id=j
 ·have e0:decide (u.id=j)=true:=decide_eq_true O
  have ac:fnd j u=u:=aB (by rw[aN O];rfl)
  have hi:hasP j u=true:=decide_eq_true (O ▸ cR u)
  rw[ac,hi]
  refine Pure.w c69 λR T=>?_
  unfold s69 r69
  (repeat' (first|simp only[EVz,seval,↓reduceIte,EV6,EV7,gv,e0]|(with_reducible intro J D;(try(have E:=D;simp only[EVK]at E;(have F:=E))))|fail))
  all_goals exact RQ T
 ·have e0:decide (u.id=j)=false:=decide_eq_false O
  rw[fnd_fnds O,ids_kid O]
  refine Pure.wL c69 λR T=>?_
  unfold s69 r69
  (repeat' (first|simp only[EVz,seval,↓reduceIte,EV6,EV7,gv,e0]|(with_reducible intro J D;(try(have E:=D;simp only[EVK]at E;(have F:=E))))|fail))
  refine ay u.kids (λi r (c:Unit)=>fnds j u.kids=fnds j r/\jx j u.kids=jx j r) (λi c=>[(2,.ref u.cs),(3,.ref j.cs),(4,.sc (.pointer (some ⟨J,0,none⟩))),(6,.int .i64 i)]) (λ_ _=>[(J,.cells 27 zU)]) () ⟨rfl,rfl⟩ (Weak.rfl' _ _) (by omega) (λi x r c N I hw=>?_) (λc N hn=>?_)
  ·have M:=ih x I.mem (ht.kid I.mem)
   simp only[Idd.cs]at M
   have V:=U.cs_len (fnd j x)
   have X:(fnd j x).cs.take 8=(fnd j x).cs:=take_of_length_le (by omega)
   rw[oF,fnds]at N
   obtain⟨Z,o2⟩:=N
   cases Y:hasP j x with
   |true=>
    rw[Y]at M o2
    rw[if_pos (of_decide_eq_true Y)]at Z
    rw[Z,o2,Bool.true_or]at T
    (repeat' (first|(with_reducible refine aa M ?_)|simp only[EVz,seval,↓reduceIte,EV6,EV7,I.yes,I.le0,I.lt',I.row,hw,I.get,V,X,F]|(with_reducible intro J D;(try(have E:=D;simp only[EVK]at E;(have F:=AI E F))))|(with_reducible first|refine ae ?_ ?_|refine af ?_)|fail))
    all_goals exact T _ _ (LeRep.refl _)
   |false=>
    rw[Y]at M o2
    rw[if_neg (of_decide_eq_false Y)]at Z
    (repeat' (first|(with_reducible refine aa M ?_)|simp only[EVz,seval,↓reduceIte,EV6,EV7,I.yes,I.le0,I.lt',I.row,hw,I.get,V,X,F]|(with_reducible intro J D;(try(have E:=D;simp only[EVK]at E;(have F:=AI E F))))|(with_reducible first|refine ae ?_ ?_|refine af ?_)|fail))
    all_goals exact ap I () ⟨Z,by rw[o2];rfl⟩ (Weak.sub ((SubN.refl _).tail _))
  ·rw[N.1,N.2]at T
   (repeat' (simp only[EVz,seval,↓reduceIte,EV6,EV7,hn,F]))
   all_goals exact T _ _ (LeRep.tup (.cons po (.cons (LeRep.refl _) .nil)))
end
def pW (l:List U) (k:Int) (s:List UInt8) (D:Idd) (any:Bool):Bool:=l.any λx=>decide (x.kind=k)&&(decide (x.label=s)&&(any||decide (x.id≠D)))
theorem pX (l:List U) (k:Int) (s:List UInt8) (D:Idd):pW l k s D true=pn l k s:=by
 unfold pW pn
 simp
theorem qw (l:List U) (k:Int) (s:List UInt8) (D:Idd):pW l k s D false=pP l k s D:=by
 unfold pW pP
 simp
section
variable (G:Glob)
theorem f73 (j:Idd) (u:U) (T:u.Tame):Pure G Tryz.prog 73 [.agg u.cs,.agg j.cs] (.bool (hasP j u)):=by
 have J:=f69 G j u T
 simp only[Idd.cs]at J
 have F:=U.cs_len (fnd j u)
 have I:(fnd j u).cs.take 8=(fnd j u).cs:=take_of_length_le (by omega)
 refine Pure.w c73 λR N=>?_
 unfold s73 r73
 (repeat' (first|(with_reducible refine aa J ?_)|simp only[EVz,seval,↓reduceIte,EV6,EV7,F,I]|(with_reducible intro M D;(try(have E:=D;simp only[EVK]at E;(have O:=E))))))
 all_goals exact RQ N
theorem f75 (l:List U) (k:Int) (s:List UInt8) (D:Idd) (any:Bool) (N:l.length<1000000):Pure G Tryz.prog 75 [.lst 8 (l.map U.cs),.int .i64 k,.str s,.agg D.cs,.bool any] (.bool (pW l k s D any)):=by
 refine Pure.w c75 λR I=>?_
 unfold s75 r75
 unfold pW at I
 (repeat' (first|(with_reducible (first|refine ab (λh=>?_) (λh=>?_)|refine ai (λh=>?_) (λh=>?_))<;>(try simp only[DZ]at h))|simp only[EVz,seval,↓reduceIte,EV6,EV7,gv,F.yes,F.le0,F.lt',F.get,F.row,M]|simp only[EVz,seval,↓reduceIte,EV6,EV7,gv,J]|simp only[EVz,seval,↓reduceIte,EV6,EV7,gv]|(refine ap F () ?_ (Weak.rfl' _ _))|(refine ay (l) (λi r (c:Unit)=>(l.any λx=>decide (x.kind=k)&&(decide (x.label=s)&&(any||decide (x.id≠D))))=(r.any λx=>decide (x.kind=k)&&(decide (x.label=s)&&(any||decide (x.id≠D))))) (λi c=>[(0,.lst 8 (l.map U.cs)),(1,.int .i64 k),(2,.str s),(4,.bool any),(8,.ref D.cs),(11,.int .i64 i)]) (λ_ _=>[]) () (by rfl) (Weak.rfl' _ _) (by omega) (λi x r c E F M=>?_) (λc E J=>?_))))
 all_goals first|(rw[E];clear E I;simp_all;done)|(refine I _ _ (.inl (.inl ?_));rw[E];clear E I;simp_all;done)
theorem f140 (l:List U) (k:Nat) (x:U) (O:k<=l.length) (T:l.length<1000000):Pure G Tryz.prog 140 [.lst 8 (l.map U.cs),.int .i64 k,.agg x.cs] (.lst 8 ((l8 l k x).map U.cs)):=by
 have F:List.take l.length (l.map U.cs)=l.map U.cs:=take_of_length_le (by simp)
 refine Pure.w c140 λR M=>?_
 unfold s140 r140
 (repeat' (first|(with_reducible refine AI (by omega) ?_)|simp only[EVz,seval,↓reduceIte,EV6,EV7,I]|simp only[EVz,seval,↓reduceIte,EV6,EV7]|(with_reducible intro J D;(try(have E:=D;simp only[EVK]at E;(have I:=E))))|(refine⟨[],rfl,(by simp),rfl,?_⟩)|(refine⟨[x.cs],rfl,(by simp[U.cs_len]),(by simp),?_⟩)|(refine p6 (by first|exact iR|exact d5 (by assumption)) rfl rfl (by simp<;>omega) (λN=>?_))))
 all_goals exact M _ _ (Or.inl (Or.inr ⟨rfl,by rw[F,l8,map_append,map_take,map_cons,map_drop];simp⟩))
end
section
variable (G:Glob)
set_option maxHeartbeats 4000000 in
theorem f72 (q:Idd) (k:Nat) (x:U):∀u:U,u.Tame->(∀y∈u.flat,y.id=q->k<=y.kids.length)->Pure G Tryz.prog 72 [.agg u.cs,.agg q.cs,.int .i64 k,.agg x.cs] (.agg (U.eve q (λy=>{y with kids:=l8 y.kids k x}) u).cs):=by
 refine U.ind λu ih ht hk=>?_
 have ac:=ht.kids
 have Z:∀y∈u.kids,∀z∈y.flat,z.id=q->k<=z.kids.length:=λy hy z hz=>hk z (U.flat_kid hy hz)
 by_cases T:u.id=q
 ·have O:decide (u.id=q)=true:=decide_eq_true T
  have hP:=f140 G u.kids k x (hk u u.flat_self T) ac
  rw[U.eve_eq,if_pos T]
  refine Pure.w c72 λR M=>?_
  unfold s72 r72
  rw[U.cs_eq u]
  (repeat' (first|(with_reducible (first|refine ab (λh=>?_) (λh=>?_)|refine ai (λh=>?_) (λh=>?_)|refine aj (λh=>?_) (λh=>?_))<;>(try simp only[DZ]at h))|(with_reducible first|refine AI (by omega) ?_|refine aa hP ?_)|simp only[EVz,seval,↓reduceIte,EV6,EV7,gv,O,E]|simp only[EVz,seval,↓reduceIte,EV6,EV7,gv,O]|(with_reducible intro N I;(try(have D:=I;simp only[EVK]at D;first|(have E:=AI D E)|(have E:=D))))|(with_reducible first|refine ae ?_ ?_|refine af ?_)|(exfalso;omega)))
  (all_goals(first|(exact RET.eq M rfl)|rfl|(refine RET.eq M ?_;(refine congrArg AV.bool (Bool.eq_iff_iff.2 ?_);simp only[U.cs_eq,EVB]at*;omega))|(refine RET.eq M ?_;first|(simp only[U.cs_eq,F,h,EVC,decide_true,decide_false];done)|(simp only[U.cs_eq,F,EVC,decide_true,decide_false];done)|(simp only[U.cs_eq,F,EVC,decide_true,decide_false];refine congrArg AV.bool (decide_eq_decide.2 ?_);omega)|(simp_all[U.cs_eq];done)|(simp_all[U.cs_eq];omega)|grind|(norm_cast at*;simp_all[U.cs_eq];done)|(norm_cast at*;simp_all[U.cs_eq];omega))|(refine M _ _ (Or.inl (Or.inr ⟨rfl,?_⟩));simp[U.cs_eq];done)|(refine M _ _ (Or.inr ?_);simp[*,bc,aR,Itm.cs_eq,U.cs_eq,U.cs_eq];done)|(rw[F];simp only[U.cs_eq,h,EVC,decide_true,decide_false];done)|(rw[F];simp only[U.cs_eq,EVC,decide_true,decide_false];done)|(simp_all[U.cs_eq];done)|(simp_all[U.cs_eq];omega)|grind|(norm_cast at*;simp_all[U.cs_eq];done)|(norm_cast at*;simp_all[U.cs_eq];omega)))
 ·have O:decide (u.id=q)=false:=decide_eq_false T
  rw[U.eve_eq,if_neg T,U.eves_map]
  refine Pure.w c72 λR M=>?_
  unfold s72 r72
  generalize hf:(U.eve q λy=>{y with kids:=l8 y.kids k x})=f at*
  simp only[Idd.cs]at ih
  rw[U.cs_eq u]
  (repeat' (first|(with_reducible (first|refine ab (λh=>?_) (λh=>?_)|refine ai (λh=>?_) (λh=>?_)|refine aj (λh=>?_) (λh=>?_))<;>(try simp only[DZ]at h))|(with_reducible refine AI (by omega) ?_)|simp only[EVz,seval,↓reduceIte,EV6,EV7,gv,O,E]|simp only[EVz,seval,↓reduceIte,EV6,EV7,gv,O]|(with_reducible intro N I;(try(have D:=I;simp only[EVK]at D;first|(have E:=AI D E)|(have E:=D))))|(with_reducible first|refine ae ?_ ?_|refine af ?_)|(refine⟨[],rfl,(by simp),rfl,?_⟩)|(exfalso;omega)))
  rename_i V ad _ _ X ah _ _
  refine ay (ι:=Option Nat) u.kids (λi r c=>∀d,c=some d->d∉Store.keys [(X,AObj.cells 27 []),(V,AObj.cells 27 [])]) (λi c=>[(2,.int .i64 k),(4,.sc (.pointer (some ⟨V,0,none⟩))),(5,.ref q.cs),(7,.ref x.cs),(8,.sc (.pointer (some ⟨X,0,none⟩))),(9,.own c 27 8 ((u.kids.take i).map λk'=>(f k').cs)),(10,.int .i64 i)]) (λi c=>[(X,.cells 27 zU),(V,.cells 27 [.int .i64 u.id.act,.int .i64 u.id.item,.int .i64 u.id.n,.int .i64 u.kind,.str u.label,.lst 4 (u.head.map Wd.cs),.lst 4 (u.words.map Wd.cs),.lst 8 (u.kids.map U.cs)])]++tokS c 27 (i*8)) (some N) (by rintro d h;injection h with h;subst h;simpa[Store.keys]using D) (by first|exact Weak.sub (SubN.perm (perm_append_comm (l₁:=[_,_]) (l₂:=[_])))|exact Weak.sub (SubN.perm (perm_append_comm (l₁:=[_]) (l₂:=[_,_])))) (by omega) (λi y r c F J hw=>?_) (λc F hn=>?_)
  ·(repeat' (first|(with_reducible (first|refine ab (λh=>?_) (λh=>?_)|refine ai (λh=>?_) (λh=>?_)|refine aj (λh=>?_) (λh=>?_))<;>(try simp only[DZ]at h))|(with_reducible first|refine AI (by omega) ?_|refine aa (ih y J.mem (ht.kid J.mem) (Z y J.mem)) ?_)|simp only[EVz,seval,↓reduceIte,EV6,EV7,J.yes,J.le0,J.lt',J.row,hw,J.get,E]|simp only[EVz,seval,↓reduceIte,EV6,EV7,J.yes,J.le0,J.lt',J.row,hw,J.get]|(with_reducible intro N I;(try(have D:=I;simp only[EVK]at D;first|(have E:=AI D E)|(have E:=D))))|(with_reducible first|refine ae ?_ ?_|refine af ?_)|(refine⟨[(f y).cs],rfl,(by simp[U.cs_len]),(by simp),?_⟩)|(refine nV (n:=i) (m':=(i+1)*8) [_,_] (by rfl) (by simpa[Store.keys]using F) (by simp;have:=J.lt;omega) rfl rfl (U.cs_len _) (by assumption) (by have:=J.lt;omega) (λgn Y=>?_))|(refine ap J gn (by simpa[Store.keys]using Y) (by simp only[J.take,map_append,map_cons,map_nil];exact Weak.rfl' _ _))|(exfalso;omega)))
  ·(repeat' (first|(with_reducible (first|refine ab (λh=>?_) (λh=>?_)|refine ai (λh=>?_) (λh=>?_)|refine aj (λh=>?_) (λh=>?_))<;>(try simp only[DZ]at h))|(with_reducible refine AI (by omega) ?_)|simp only[EVz,seval,↓reduceIte,EV6,EV7,hn,E]|simp only[EVz,seval,↓reduceIte,EV6,EV7,hn]|(with_reducible intro N I;(try(have D:=I;simp only[EVK]at D;first|(have E:=AI D E)|(have E:=D))))|(with_reducible first|refine ae ?_ ?_|refine af ?_)|(exfalso;omega)))
   (all_goals(first|(exact RET.eq M rfl)|rfl|(refine RET.eq M ?_;(refine congrArg AV.bool (Bool.eq_iff_iff.2 ?_);simp only[U.cs_eq,EVB]at*;omega))|(refine RET.eq M ?_;first|(simp only[U.cs_eq,F,h,EVC,decide_true,decide_false];done)|(simp only[U.cs_eq,F,EVC,decide_true,decide_false];done)|(simp only[U.cs_eq,F,EVC,decide_true,decide_false];refine congrArg AV.bool (decide_eq_decide.2 ?_);omega)|(simp_all[U.cs_eq];done)|(simp_all[U.cs_eq];omega)|grind|(norm_cast at*;simp_all[U.cs_eq];done)|(norm_cast at*;simp_all[U.cs_eq];omega))|(refine M _ _ (Or.inl (Or.inr ⟨rfl,?_⟩));simp[U.cs_eq];done)|(refine M _ _ (Or.inr ?_);simp[*,bc,aR,Itm.cs_eq,U.cs_eq,U.cs_eq];done)|(rw[F];simp only[U.cs_eq,h,EVC,decide_true,decide_false];done)|(rw[F];simp only[U.cs_eq,EVC,decide_true,decide_false];done)|(simp_all[U.cs_eq];done)|(simp_all[U.cs_eq];omega)|grind|(norm_cast at*;simp_all[U.cs_eq];done)|(norm_cast at*;simp_all[U.cs_eq];omega)))
set_option maxHeartbeats 4000000 in
theorem f70 (q:Idd):∀u:U,u.Tame->Pure G Tryz.prog 70 [.agg u.cs,.agg q.cs] (.agg (U.cut q u).cs):=by
 refine U.ind λu ih ht=>?_
 have al:=ht.kids
 rw[U.cut_eq]
 refine Pure.w c70 λR T=>?_
 unfold s70 r70
 simp only[Idd.cs]at ih
 rw[U.cs_eq u]
 (repeat' (first|(with_reducible (first|refine ab (λh=>?_) (λh=>?_)|refine ai (λh=>?_) (λh=>?_)|refine aj (λh=>?_) (λh=>?_))<;>(try simp only[DZ]at h))|(with_reducible refine AI (by omega) ?_)|simp only[EVz,seval,↓reduceIte,EV6,EV7,E]|simp only[EVz,seval,↓reduceIte,EV6,EV7]|(with_reducible intro N I;(try(have D:=I;simp only[EVK]at D;first|(have E:=AI D E)|(have E:=D))))|(with_reducible first|refine ae ?_ ?_|refine af ?_)|(refine⟨[],rfl,(by simp),rfl,?_⟩)|(exfalso;omega)))
 rename_i Y ad _ _ Z ah _ _
 refine ay (ι:=Option Nat×List U) u.kids (λi r c=>(∀d,c.1=some d->d∉Store.keys [(Z,AObj.cells 27 []),(Y,AObj.cells 27 [])])/\c.2.length<=i/\U.cuts q u.kids=c.2++U.cuts q r) (λi c=>[(2,.sc (.pointer (some ⟨Y,0,none⟩))),(3,.ref q.cs),(4,.sc (.pointer (some ⟨Z,0,none⟩))),(5,.own c.1 27 8 (c.2.map U.cs)),(6,.int .i64 i)]) (λi c=>[(Z,.cells 27 zU),(Y,.cells 27 [.int .i64 u.id.act,.int .i64 u.id.item,.int .i64 u.id.n,.int .i64 u.kind,.str u.label,.lst 4 (u.head.map Wd.cs),.lst 4 (u.words.map Wd.cs),.lst 8 (u.kids.map U.cs)])]++tokS c.1 27 (c.2.length*8)) (some N,[]) ⟨by rintro d h;injection h with h;subst h;simpa[Store.keys]using D,Nat.zero_le _,rfl⟩ (by first|exact Weak.sub (SubN.perm (perm_append_comm (l₁:=[_,_]) (l₂:=[_])))|exact Weak.sub (SubN.perm (perm_append_comm (l₁:=[_]) (l₂:=[_,_])))) (by omega) (λi y r c M F V=>?_) (λc M hn=>?_)
 ·obtain⟨o1,o2,J⟩:=M
  rw[U.cuts]at J
  have an:=F.lt
  by_cases X:y.id=q
  ·have O:decide (y.id=q)=true:=decide_eq_true X
   rw[if_pos X]at J
   (repeat' (first|(with_reducible (first|refine ab (λh=>?_) (λh=>?_)|refine ai (λh=>?_) (λh=>?_)|refine aj (λh=>?_) (λh=>?_))<;>(try simp only[DZ]at h))|(with_reducible refine AI (by omega) ?_)|simp only[EVz,seval,↓reduceIte,EV6,EV7,F.yes,F.le0,F.lt',F.row,V,F.get,gv,O,E]|simp only[EVz,seval,↓reduceIte,EV6,EV7,F.yes,F.le0,F.lt',F.row,V,F.get,gv,O]|(with_reducible intro N I;(try(have D:=I;simp only[EVK]at D;first|(have E:=AI D E)|(have E:=D))))|(with_reducible first|refine ae ?_ ?_|refine af ?_)|(refine ap F c ⟨o1,by omega,J⟩ (Weak.rfl' _ _))|(exfalso;omega)))
  ·have O:decide (y.id=q)=false:=decide_eq_false X
   rw[if_neg X]at J
   (repeat' (first|(with_reducible (first|refine ab (λh=>?_) (λh=>?_)|refine ai (λh=>?_) (λh=>?_)|refine aj (λh=>?_) (λh=>?_))<;>(try simp only[DZ]at h))|(with_reducible first|refine AI (by omega) ?_|refine aa (ih y F.mem (ht.kid F.mem)) ?_)|simp only[EVz,seval,↓reduceIte,EV6,EV7,F.yes,F.le0,F.lt',F.row,V,F.get,gv,O,E]|simp only[EVz,seval,↓reduceIte,EV6,EV7,F.yes,F.le0,F.lt',F.row,V,F.get,gv,O]|(with_reducible intro N I;(try(have D:=I;simp only[EVK]at D;first|(have E:=AI D E)|(have E:=D))))|(with_reducible first|refine ae ?_ ?_|refine af ?_)|(refine⟨[(U.cut q y).cs],rfl,(by simp[U.cs_len]),(by simp),?_⟩)|(refine nV (n:=c.2.length) (m':=(c.2.length+1)*8) [_,_] (by rfl) (by simpa[Store.keys]using o1) (by simp) rfl rfl (U.cs_len _) (by assumption) (by omega) (λgn ac=>?_))|(refine ap F (gn,c.2++[U.cut q y]) ⟨by simpa[Store.keys]using ac,by simp;omega,by rw[J];simp⟩ (by simp only[map_append,map_cons,map_nil,length_append,length_cons,length_nil];exact Weak.rfl' _ _))|(exfalso;omega)))
 ·obtain⟨o1,o2,J⟩:=M
  rw[U.cuts,append_nil]at J
  (repeat' (first|(with_reducible (first|refine ab (λh=>?_) (λh=>?_)|refine ai (λh=>?_) (λh=>?_)|refine aj (λh=>?_) (λh=>?_))<;>(try simp only[DZ]at h))|(with_reducible refine AI (by omega) ?_)|simp only[EVz,seval,↓reduceIte,EV6,EV7,hn,E]|simp only[EVz,seval,↓reduceIte,EV6,EV7,hn]|(with_reducible intro N I;(try(have D:=I;simp only[EVK]at D;first|(have E:=AI D E)|(have E:=D))))|(with_reducible first|refine ae ?_ ?_|refine af ?_)|(exfalso;omega)))
  (all_goals(first|(exact RET.eq T rfl)|rfl|(refine RET.eq T ?_;(refine congrArg AV.bool (Bool.eq_iff_iff.2 ?_);simp only[U.cs_eq,J,EVB]at*;omega))|(refine RET.eq T ?_;first|(simp only[U.cs_eq,J,M,h,EVC,decide_true,decide_false];done)|(simp only[U.cs_eq,J,M,EVC,decide_true,decide_false];done)|(simp only[U.cs_eq,J,M,EVC,decide_true,decide_false];refine congrArg AV.bool (decide_eq_decide.2 ?_);omega)|(simp_all[U.cs_eq,J];done)|(simp_all[U.cs_eq,J];omega)|grind|(norm_cast at*;simp_all[U.cs_eq,J];done)|(norm_cast at*;simp_all[U.cs_eq,J];omega))|(refine T _ _ (Or.inl (Or.inr ⟨rfl,?_⟩));simp[U.cs_eq,J];done)|(refine T _ _ (Or.inr ?_);simp[*,bc,aR,Itm.cs_eq,U.cs_eq,U.cs_eq,J];done)|(rw[M];simp only[U.cs_eq,J,h,EVC,decide_true,decide_false];done)|(rw[M];simp only[U.cs_eq,J,EVC,decide_true,decide_false];done)|(simp_all[U.cs_eq,J];done)|(simp_all[U.cs_eq,J];omega)|grind|(norm_cast at*;simp_all[U.cs_eq,J];done)|(norm_cast at*;simp_all[U.cs_eq,J];omega)))
end
end Go.Av
