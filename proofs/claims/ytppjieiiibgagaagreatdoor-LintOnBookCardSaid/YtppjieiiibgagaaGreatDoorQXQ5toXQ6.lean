/-
  LINT ON BOOKS, 5: many items applied, by the document (r23.All). DRAFT: not built (law23.all's walk with other names).
-/
import Derived.Test.YtppjieiiibgagaaGreatDoorQXM35toXN7
import Derived.Test.YtppjieiiibgagaaGreatDoorQXQ3toXC9
import Derived.Test.YtppjieiiibgagaaGreatDoorQXC9
import Derived.Test.YtppjieiiibgagaaGreatDoorQXL3toXL7
set_option linter.all false
namespace Go.Av
open Go Go.RowKit Go.Proofs List
section
variable (G:Glob)
set_option maxHeartbeats 4000000 in
def f41 (u:U) (hu:Good u) (l:List Dd) (hl:l.length<1000000) (hs:∀d∈l,d.it.Shorts):Pure G Tryz.prog 41 [.agg u.cs,.lst 28 (l.map Dd.cs)] (kx (allR u l)):=by
 refine Pure.w c41 λR hR=>?_;unfold s41 r41;unfold kx at hR;(repeat' (first|simp only[EV,seval]|(with_reducible intro N F;(try(have E:=F;simp only[EVK]at E;first|(have D:=AI E D)|(have D:=E))))|(refine⟨[],rfl,(by simp),rfl,?_⟩)|fail));rename_i V _ _ _ X _ _ _;generalize ac:N=b6 at*;obtain⟨⟨q2,q3⟩,Z,_⟩:=D;have T:¬V=X:=λe=>Z e.symm;have aw:¬X=b6:=λe=>q2 e.symm;have bb:¬V=b6:=λe=>q3 e.symm;refine ap (ι:=U×List Ms×Option Nat) l (λi r c=>Good c.1/\allR u l=((allR c.1 r).1,c.2.1++(allR c.1 r).2)/\c.2.1.length<=i/\(∀d,c.2.2=some d->d∉Store.keys [(X,AObj.cells 27 zU),(V,.cells 27 zU)])) (λi c=>[(1,.lst 28 (l.map Dd.cs)),(2,.p V),(4,.p X),(6,.own c.2.2 93 3 (c.2.1.map Ms.cs)),(7,.i i)]) (λi c=>[(X,.cells 27 zU),(V,.cells 27 c.1.cs)]++tokS c.2.2 93 (c.2.1.length*3)) (u,[],some b6) ⟨hu,by simp,by simp,by simp[Store.keys,q2,q3]⟩ (Weak.sub ⟨λq hq=>by(simp[tokS]at hq;rcases hq with rfl|rfl|rfl<;>simp[zU]),λ_=>by(simp[Store.keys,tokS,Z,aw,bb])⟩) (by omega) (λi x r c O I hw=>?_) (λc O hn=>?_)
 ·obtain⟨o1,M,o3,o4⟩:=O;have hI:=f29 G x.it.kind;have hA:=f31 G c.1 o1 x (hs x I.mem);have J:=fX o1 x;have bd:=I.lt
  have aa:g8 c.1 x=de c.1 x:=by unfold g8 de;rw[do_same o1]
  have an:=M;rw[show ∀a (r:List Dd),allR a (x::r)=((allR (g8 a x).1 r).1,(g8 a x).2++(allR (g8 a x).1 r).2)from λ_ _=>rfl]at M;unfold aY at hA;rw[←aa]at J;unfold g8 at M J;clear ac F E D an aa
  cases hc:chg x.it.kind with
  |false=>
   rw[hc]at hI;rw[hc,if_pos rfl]at M J;(repeat' (first|(with_reducible refine ab hI ?_)|simp only[EV,seval,I.yes,I.le0,I.lt',I.get,I.row,hw,Dd.cs,eH,D]|fail));exact ak I c ⟨o1,by simpa using M,by omega,o4⟩ (Weak.sub (SubN.refl _))
  |true=>
   rw[hc]at hI;rw[hc,if_neg (by simp)]at M J;obtain⟨⟨v,e⟩,al⟩:∃z,doR c.1 x=z:=⟨_,rfl⟩;rw[al]at hA M J;unfold kw at M J;simp only[Dd.cs,eH]at hA
   rcases Classical.em (e=0)with he|he
   ·subst he;(repeat' (first|(with_reducible first|refine ab hI ?_|refine ab hA ?_)|simp only[EV,seval,I.yes,I.le0,I.lt',I.get,I.row,hw,Dd.cs,eH,Z,T,D]|(with_reducible intro N F;(try(have E:=F;simp only[EVK]at E;(have D:=AI E D))))|(with_reducible first|refine ag ?_ ?_|refine ai ?_)|fail))
    all_goals exact ak I (v,c.2.1,c.2.2) ⟨J.1,by simpa using M,Nat.le_succ_of_le o3,o4⟩ (Weak.sub (SubN.tail (SubN.refl _) _))
   ·(repeat' (first|(with_reducible (refine ae (λh=>?_) λh=>?_)<;>(try simp only[DZ]at h))|(with_reducible first|refine ab hI ?_|refine ab hA ?_)|simp only[EV,seval,I.yes,I.le0,I.lt',I.get,I.row,hw,Dd.cs,eH,he,Z,T,D]|(with_reducible intro N F;(try(have E:=F;simp only[EVK]at E;(have D:=AI E D))))|(with_reducible first|refine ag ?_ ?_|refine ai ?_)|(exfalso;omega)|fail))
    all_goals
     rename_i b8 _ _ _
     obtain⟨n1,n2,_⟩:=D
     have ah:∀d,c.2.2=some d->d∈(tokS c.2.2 93 (c.2.1.length*3)).keys:=by
      intro d Y;rw[Y];simp[tokS,Store.keys]
     refine⟨[Ms.cs ⟨x.act,x.item,e⟩],rfl,by simp[Ms.cs],by simp[Ms.cs],?_⟩
     refine km (sz:=3) (bytes:=24) (rows:=c.2.1.map Ms.cs) (ys:=[Ms.cs ⟨x.act,x.item,e⟩]) (m:=c.2.1.length*3) [(N,_)] [(b8,_),(X,_),(V,_)] ?_ ?_ (by rw[length_map]) ?_ (by rw[length_map];simp;omega) (λgn ad=>?_)
     ·intro p hp
      simp only[mem_singleton]at hp;subst hp;simp[Store.keys,n1];simpa[Store.keys]using n1.2.2.2
     ·intro d Y
      have h1:=ah d Y;have h2:=o4 d Y;simp[Store.keys]at h2 ⊢;refine⟨λq=>n2.2.2 (q ▸ h1),h2.1,h2.2⟩
     ·simp[Store.keys,n2,Z]
     (repeat' (first|simp only[EV,seval,n1,n2,Z,T,hw,D]|(with_reducible refine ai ?_)|fail))
     refine ak I (v,c.2.1++[⟨x.act,x.item,e⟩],gn) ⟨J.1,by simpa[he]using M,?_,?_⟩ ?_
     ·rw[length_append];exact Nat.succ_le_succ o3
     ·intro d Y
      have:=ad d Y;simp[Store.keys]at this ⊢;exact⟨this.2.1,this.2.2⟩
     ·simp only[map_append,map_cons,map_nil,length_append,length_map,length_cons,length_nil]
      exact Weak.sub (SubN.tail (SubN.refl _) _)
 ·(repeat' (simp only[EV,seval,hn,D]));obtain⟨o1,M,o3,o4⟩:=O;simp only[allR,append_nil]at M;rw[M]at hR;exact hR _ _ (.inr ⟨uK _,.inr ⟨rfl,rfl⟩,trivial⟩)
end
section
variable (G:Glob)
def f42:Pure G Tryz.prog 42 [] (.lst 1 (bl.map srow)):=by
 refine Pure.w c42 λR I=>?_;unfold s42 r42;(repeat' (first|simp only[EV,seval]|(with_reducible intro F D;(try(have E:=D;simp only[EVK]at E;(have J:=E))))|fail));exact⟨bl.map srow,rfl,by simp[srow],rfl,I _ _ (Or.inl (Or.inr ⟨rfl,rfl⟩))⟩
def name_row {k:Int} (D:0<=k) (E:k<=6):(bl.map srow).getD k.toNat []=[.str (bl.getD k.toNat [])]:=by
 rcases lt12 D (by omega)with rfl|rfl|rfl|rfl|rfl|rfl|rfl|rfl|rfl|rfl|rfl|rfl<;>rfl
set_option maxHeartbeats 8000000 in
def on_rest (a:Ac) (m:List Ms) (hl:a.items.length<1000000) (aw:m.length<=a.items.length)
  (aa:∀x∈m,x.why≠0/\∃j y,a.items[j]? =some y/\x.item=((0+j:Nat):Int)/\chg y.kind=true) (v:List AV) (b0:Nat) (R:AV->Store->Prop) (hR:∀x σ,AVle x (.lst 6 ((m.map (onF a)).map Fnd.cs))->RET x σ R):
  W G Tryz.prog restOn (retQ r12 R) [(3,.ref [.i a.number,.str a.title,.i a.day,.i a.start.kind,.i a.start.day,.str a.start.event,.lst 25 (a.items.map Itm.cs)]),(6,.lst 3 (m.map Ms.cs))] [(b0,.cells 27 v)] ⟨⟩:=by
 unfold restOn r12
 (repeat' (first|simp only[EV,seval]|(with_reducible intro O D;(try(have E:=D;simp only[EVK]at E;(have I:=E))))|(refine⟨[],rfl,(by simp),rfl,?_⟩)|fail))
 refine ap (ι:=Option Nat) m (λi r c=>True) (λi c=>[(3,.ref [.i a.number,.str a.title,.i a.day,.i a.start.kind,.i a.start.day,.str a.start.event,.lst 25 (a.items.map Itm.cs)]),(6,.lst 3 (m.map Ms.cs)),(7,.own c 88 6 (((m.take i).map (onF a)).map Fnd.cs)),(8,.i i)]) (λi c=>tokS c 88 (i*6)) (some O) trivial (Weak.sub ⟨λq hq=>by(simp[tokS]at hq;simp[hq]),λ_=>by simp[Store.keys,tokS]⟩) (by omega) (λi x r c ac F hw=>?_) (λc ac hn=>?_)
 ·have I:=True.intro
  obtain⟨bd,j,y,J,N,ad⟩:=aa x F.mem;have an:j<a.items.length:=(List.getElem?_eq_some_iff.1 J).1
  have ah:0<=x.item:=by omega
  have al:x.item<a.items.length:=by omega
  have T:lx a x.item=y:=by
   unfold lx;rw[N,Nat.zero_add,Int.toNat_natCast,getD_eq_getElem?_getD,J];rfl
  have hg:(a.items.map Itm.cs).getD x.item.toNat []=y.cs:=by
   rw[N,Nat.zero_add,Int.toNat_natCast,getD_eq_getElem?_getD,getElem?_map,J];rfl
  have Y:0<=y.kind/\y.kind<=6:=by simpa[chg]using ad
  have hK:=f42 G;have Z:=name_row Y.1 Y.2
  have V:Fnd.cs (onF a x)=[.i x.item,.i 0,.i 0,.i 0,.i x.why,.str (bl.getD y.kind.toNat [])]:=by unfold onF;rw[T];rfl
  have X:y.cs.headD .any= .i y.kind:=by rw[eH];rfl
  have M:((m.take (i+1)).map (onF a)).map Fnd.cs=((m.take i).map (onF a)).map Fnd.cs++[[.i x.item,.i 0,.i 0,.i 0,.i x.why,.str (bl.getD y.kind.toNat [])]]:=by
   rw[F.take,map_append,map_append,map_cons,map_nil,map_cons,map_nil,V]
  clear J N T;have bb:bl.length=12:=rfl;(repeat' (first|(with_reducible first|refine AI (by omega) ?_|refine ab hK ?_)|simp only[EV,seval,F.yes,F.le0,F.lt',F.get,F.row,hw,Ms.cs,hg,X,Z,sE,I]|(with_reducible intro O D;(try(have E:=D;simp only[EVK]at E;(have I:=E))))|(with_reducible first|refine ag ?_ ?_|refine ai ?_)|(refine aZ (n:=i) (m':=(i+1)*6) (by exact aS) (by simp;have:=F.lt;omega) rfl rfl rfl (by assumption) (by have:=F.lt;omega) (λgn=>?_))|(refine ak F gn trivial ?_)|fail))
  all_goals(rw[M];exact dT _ _)
 ·(repeat' (simp only[EV,seval,hn,I]))
  exact hR _ _ (Or.inl (Or.inr ⟨rfl,by rw[take_length]⟩))
def f12 (u:U) (Y:Good u) (a:Ac) (O:a.items.length<1000000) (hs:∀d∈a.deeds,d.it.Shorts):Pure G Tryz.prog 12 [.agg u.cs,.agg a.cs] (.lst 6 ((a.on u).map Fnd.cs)):=by
 have I:=f38 G a O;have F:=f41 G u Y a.deeds (by unfold Ac.deeds;rw[cd];exact O) hs;rw[o0 Y]at F;have E:=kj a a.items 0 u;unfold Ac.on Ac.deeds at*;obtain⟨⟨v,m⟩,N⟩:∃z,allP u (bO a 0 a.items)=z:=⟨_,rfl⟩;rw[N]at F E ⊢;unfold kx at F;unfold Ac.cs at I ⊢;simp only at F E ⊢
 have T:m.length<=a.items.length:=by
  have:=kY (bO a 0 a.items) u;rw[N,cd]at this;exact this
 have X:=ra v;refine Pure.w c12 λR hR=>?_;have D:=λZ=>on_rest G a m O T E.2 v.cs Z R hR;unfold s12 r12;unfold r12 at D;(repeat' (first|(with_reducible first|refine ab I ?_|refine ab F ?_)|simp only[EV,seval,X,V]|simp only[EV,seval,X]|(with_reducible intro aa J;(try(have M:=J;simp only[EVK]at M;(have V:=M))))|(with_reducible first|refine ag ?_ ?_|refine ai ?_)|fail))
 all_goals exact D _
end
section
variable (G:Glob) (hN:G.tab 0=some (bl.map AV.str)) (hG:GOk G) (hG2:GOk2 G)
include hN hG hG2
set_option maxHeartbeats 8000000 in
def f4 (u:U) (I:u.fit) (a:Ac) (hl:a.items.length<1000000000000000000) (hf:∀x∈a.items,x.fit):Pure G Tryz.prog 4 [.agg u.cs,.agg a.cs] (.bool true):=by
 have F:=f11 G hG;have D:=f10 G u I a hl hf
 cases E:fineB u a with
 |false=>
  rw[E]at D;refine Pure.w c4 λR O=>?_;unfold s4 r4;unfold Ac.cs at D ⊢;(repeat' (first|(with_reducible first|refine ab F ?_|refine ab D ?_)|simp only[EV,seval]|fail))
  all_goals exact RQ O
 |true=>
 rw[E]at D;unfold fineB at E;simp only[Bool.and_eq_true]at E;obtain⟨_,h2,h3,_⟩:=E;have V:=oS h2;obtain⟨aa,Y,X,J⟩:=few_act hf h3;have hX:=f12 G u V a (by omega) (λd T=>J _ (gy a T));have Z:=f15 G hN hG hG2 u V a (by omega) (by omega) (by omega) J;have hO:=f14 G hN hG u V a (by omega) (λd T=>J _ (gy a T));have hK:=f16 G a (by omega) (by omega) J;have ad:=kY a.deeds u
 have ac:a.deeds.length=a.items.length:=by unfold Ac.deeds;rw[cd]
 have ah:(a.on u).length<=40:=by unfold Ac.on;rw[length_map];omega
 have hS:=f13 G (a.on u) (a.on u) (by omega);rw[decide_eq_true rfl]at hS;generalize a.on u=L at*;generalize a.chk=M at*;refine Pure.w c4 λR O=>?_;unfold s4 r4;unfold Ac.cs at D hX Z hO hK ⊢;(repeat' (first|(with_reducible (refine af (λh=>?_) λh=>?_)<;>(try simp only[DZ]at h))|(with_reducible first|refine ab F ?_|refine ab D ?_|refine ab hX ?_|refine ab Z ?_|refine ab hO ?_|refine ab hK ?_|refine ab hS ?_)|simp only[EV,seval]|fail))
 all_goals first|exact RQ O|(exfalso;rename_i N;rw[decide_eq_true N,Bool.and_true]at h;simp at h;done)|(exfalso;rename_i N;rw[decide_eq_false N,Bool.and_false]at h;simp at h;done)
end
end Go.Av
