/-
  UNDO, the patch of an item by the document (r24.Patch). DRAFT: not built.
-/
import Derived.Test.YtppjieiiibgagaaGreatDoorWXZ0toXM30
import Derived.Test.YtppjieiiibgagaaGreatDoorWXM31toXV6
import Derived.Test.YtppjieiiibgagaaGreatDoorWXM9toXOpE
import Derived.Test.YtppjieiiibgagaaGreatDoorWXV8toXV13
import Derived.Test.YtppjieiiibgagaaGreatDoorWXM20toXR4
import Derived.Test.YtppjieiiibgagaaGreatDoorWXU4toXN0
import Derived.Test.YtppjieiiibgagaaGreatDoorWXL16toXGo
import Derived.Test.YtppjieiiibgagaaGreatDoorWXAv16toXAv22
import Derived.Test.YtppjieiiibgagaaGreatDoorWXE6toXL25
import Derived.Test.YtppjieiiibgagaaGreatDoorWXE8toXE10
import Derived.Test.YtppjieiiibgagaaGreatDoorWXL32toXL54
import Derived.Test.YtppjieiiibgagaaGreatDoorWXL18toXL21
import Derived.Test.YtppjieiiibgagaaGreatDoorWXM11toXM16
import Derived.Test.YtppjieiiibgagaaGreatDoorWXC4
import Derived.Test.YtppjieiiibgagaaGreatDoorWXC5
import Derived.Test.YtppjieiiibgagaaGreatDoorWXC6
set_option linter.all false
namespace Go.Av
open Go Go.RowKit Go.Proofs List
def app_lstX {e:TypeId} {sz bytes:Nat} {τ:Store} {ys:List (List AV)} {K:AV->Store->Prop} {b:Nat} (E:b∉Store.keys τ) (I:ys.length*bytes<=140737488355328)
  (F:∀D,(∀d,D=some d->d∉Store.keys τ)->K (.own D e sz ys) (τ++tokS D e (ys.length*sz))):appX e sz bytes ((b,.tok e 0)::τ) (some b) [] ys K:=by
 refine fb τ (by rintro d h;injection h with h;subst h;simp[Store.get]) (by simpa using I) ?_ (λD h=>by simpa using F D h)
 rw[gi,if_pos rfl]
 have:∀{τ:Store},b∉Store.keys τ->Store.erase τ (some b)=τ:=by
  intro τ
  induction τ with
  |nil=>intro _;rfl
  |cons x τ ih=>
   obtain⟨k,o⟩:=x;intro h;simp only[Store.keys,map_cons,mem_cons,not_or]at h;rw[gi,if_neg (λe=>h.1 e.symm),ih (by simpa[Store.keys]using h.2)]
 rw[this E]
 exact SubN.refl _
def le_pt {xs ys:List AV} (h:LeReps xs ys):LeRep (.tup [.agg xs,.i 0]) (.tup [.agg ys,.i 0]):=LeRep.tup (.cons (LeRep.agg h) (.cons (LeRep.refl _) .nil))
section
variable (G:Glob)
set_option maxHeartbeats 8000000 in
def f8 (u:U) (hg:Good u) (d:Dd) (aa:d.it.Shorts):Pure G Tryz.prog 8 [.agg u.cs,.agg d.cs] (lj (invP u d)):=by
 have hs:=hg.short;obtain⟨q1,_⟩:=(rI d.it).1 aa;have hC:=f29 G d.it.kind;have Z:=f30 G d.it aa;have M:=f31 G u hg d aa;rw[do_same hg d]at M;unfold aV at M;have O:=hJ (doP u d).1;have T:(doP u d).1.cs.take 8=(doP u d).1.cs:=take_of_length_le (by omega);unfold lj;by_cases ad:chg d.it.kind=false\/d.it.may=false
 ·have an:doP u d=(u,1):=by unfold doP;rw[if_pos ad]
  have I:invP u d=(zPt,1):=by unfold invP;rw[an];rfl
  rw[I];unfold Dd.cs;rw[dT]at Z ⊢;rw[b0 u];refine sG c8 λR J=>?_;unfold s8 r8;(repeat' (first|(with_reducible (first|refine ae (λh=>?_) λh=>?_|refine ai (λh=>?_) λh=>?_)<;>(try simp only[DZ]at h))|(with_reducible first|refine ab hC ?_|refine ab Z ?_)|simp only[EV,seval,E]|simp only[EV,seval]|(with_reducible intro ac F;(try(have D:=F;simp only[EVK]at D;(have E:=D))))|fail))
  all_goals first|exact J _ _ (LeRep.tup (.cons le_zPt (.cons (LeRep.refl _) .nil)))|(exfalso;simp_all;done)
 have Y:=ad;rw[not_or,Bool.not_eq_false,Bool.not_eq_false]at Y;obtain⟨hc,hm⟩:=Y;rw[hc]at hC;rw[hm]at Z;by_cases he:(doP u d).2=0
 ·have I:invP u d=(mkPt u d (one u d.it.at_).1,0):=by unfold invP;rw[if_neg (by simp[he])]
  rw[I];obtain⟨o1,o2,o3,o4⟩:=do_ok he;have hO:=f32 G u d.it.at_ hs.1 hg.cnt q1.at_ q1.atl;have hi:=bH (u:=u) (p:=d.it.at_) o3;unfold gQ at hO;rw[o3]at hO;rw[he]at M;obtain⟨i,aw⟩:∃i,(one u d.it.at_).1=i:=⟨_,rfl⟩;rw[aw]at hO hi o4 ⊢;have hF:=f33 G i u hs.1;have hP:=f34 G i u hs.1;have V:d.it.kind≠0->parX i u=((parR i u).1.id,((parR i u).2.2:Int),true):=λk0=>parX_all hg.nd hi (Ne.symm (o4.resolve_left k0));unfold trp at hP;obtain⟨⟨q,j,b⟩,hq⟩:∃z,parX i u=z:=⟨_,rfl⟩;rw[hq]at hP V;rw[show hasP i u=true from decide_eq_true hi]at hF
  have bh:0<=d.it.kind/\d.it.kind<=6:=by simpa[chg]using o1
  have N:=(hs.node (aJ u hg.nd hi)).2 _ (U.flat_self _);have bb:(fnd i u).words.length<1000000:=N.2.2.1;have bd:(fnd i u).head.length<1000000:=N.2.1;obtain⟨X,hX⟩:∃X,fnd i u=X:=⟨_,rfl⟩;rw[hX]at hF bb bd;have ah:List.take X.words.length (X.words.map Wd.cs)=X.words.map Wd.cs:=take_of_length_le (by simp);have al:List.take X.head.length (X.head.map Wd.cs)=X.head.map Wd.cs:=take_of_length_le (by simp)
  have m0:d.it.kind=0->mkPt u d i=⟨0,0,⟨d.act,d.item,1⟩,zId,noU,[],[]⟩:=λk=>by unfold mkPt;rw[if_pos k]
  have m1:d.it.kind=1->mkPt u d i=⟨1,j,i,q,X,[],[]⟩:=λk=>by
   have:=V (by omega);simp only[Prod.mk.injEq]at this;unfold mkPt;rw[if_neg (by omega),if_pos k,hX,this.1,this.2.1]
  have m2:d.it.kind=2\/d.it.kind=3->mkPt u d i=⟨4,0,i,zId,noU,[],X.words⟩:=λk=>by unfold mkPt;rw[if_neg (by omega),if_neg (by omega),if_pos k,hX]
  have m4:d.it.kind=4->mkPt u d i=⟨5,0,i,zId,noU,[],X.head⟩:=λk=>by unfold mkPt;rw[if_neg (by omega),if_neg (by omega),if_neg (by omega),if_pos k,hX]
  have m5:d.it.kind=5->mkPt u d i=⟨3,0,i,zId,noU,X.label,[]⟩:=λk=>by unfold mkPt;rw[if_neg (by omega),if_neg (by omega),if_neg (by omega),if_neg (by omega),if_pos k,hX]
  have m6:d.it.kind=6->mkPt u d i=⟨2,j,i,q,noU,[],[]⟩:=λk=>by
   have:=V (by omega);simp only[Prod.mk.injEq]at this;unfold mkPt;rw[if_neg (by omega),if_neg (by omega),if_neg (by omega),if_neg (by omega),if_neg (by omega),this.1,this.2.1]
  clear V;simp only[Idd.cs]at hF hP;generalize (doP u d).1.cs=vs at*;unfold Dd.cs at M ⊢;rw[dT]at Z M ⊢;rw[b0 X]at hF;rw[b0 u]at M hO hF hP ⊢;refine sG c8 λR J=>?_;unfold s8 r8;(repeat' (first|(with_reducible (refine ae (λh=>?_) λh=>?_)<;>(try simp only[DZ]at h))|(with_reducible first|refine ab hC ?_|refine ab Z ?_|refine ab M ?_|refine ab hO ?_|refine ab hF ?_|refine ab hP ?_)|simp only[EV,seval,O,T,ah,al,E]|simp only[EV,seval,O,T,ah,al]|(with_reducible intro ac F;(try(have D:=F;simp only[EVK]at D;first|(have E:=AI D E)|(have E:=D))))|(with_reducible first|refine af ?_ ?_|refine ag ?_)|(refine⟨[],rfl,(by simp),rfl,?_⟩)|(refine app_lstX (by assumption) (by simp;omega) (λgn be=>?_);simp only[nil_append,cons_append])|(exfalso;omega)|fail))
  all_goals(first|rw[m0 (by assumption)]at J|rw[m1 (by assumption)]at J|rw[m2 (.inl (by assumption))]at J|rw[m2 (.inr (by assumption))]at J|rw[m4 (by assumption)]at J|rw[m5 (by assumption)]at J|rw[m6 (by omega)]at J)
  all_goals(refine J _ _ (le_pt ?_);unfold Pt.cs;simp only[noU,zId];repeat' (first|exact LeReps.nil|refine LeReps.cons ?_ ?_|fail))
  all_goals first|exact LeRep.refl _|exact LeRep.nil|exact LeRep.own (LeRows.refl _)
 ·have I:invP u d=(zPt,(doP u d).2):=by unfold invP;rw[if_pos he]
  rw[I];generalize (doP u d).1.cs=vs at*;generalize (doP u d).2=e at*;have e1:decide (e≠0)=true:=decide_eq_true he;unfold Dd.cs at M ⊢;rw[dT]at Z M ⊢;rw[b0 u]at M ⊢;refine sG c8 λR J=>?_;unfold s8 r8;(repeat' (first|(with_reducible first|refine ab hC ?_|refine ab Z ?_|refine ab M ?_)|simp only[EV,seval,O,T,e1,E]|simp only[EV,seval,O,T,e1]|(with_reducible intro ac F;(try(have D:=F;simp only[EVK]at D;first|(have E:=AI D E)|(have E:=D))))|fail))
  all_goals exact J _ _ (LeRep.tup (.cons le_zPt (.cons (LeRep.refl _) .nil)))
end
def app_keptL {e:TypeId} {sz bytes m:Nat} {g:Option Nat} {rows ys:List (List AV)} {K:AV->Store->Prop} (pre κ:Store) (X:∀p∈pre,p.1∉Store.keys (κ++tokS g e m)) (O:∀b,g=some b->b∉κ.keys) (F:m=rows.length*sz) (I:κ.keys.Nodup) (T:(rows.length+ys.length)*bytes<=140737488355328)
  (V:∀E,(∀b,E=some b->b∉κ.keys)->K (.own E e sz (rows++ys)) (κ++tokS E e ((rows++ys).length*sz))):appX e sz bytes (pre++(κ++tokS g e m)) g rows ys K:=by
 subst F
 refine fb κ (λb h=>?_) T ⟨λq M=>?_,λ_=>I⟩ V
 ·have N:=tokF (e:=e) (m:=rows.length*sz) O b h
  have D:b∈Store.keys (κ++tokS g e (rows.length*sz)):=mem_map.2 ⟨_,rb N,rfl⟩;rw[ao]
  ·exact N
  ·intro F;obtain⟨p,J,rfl⟩:=mem_map.1 F;exact X p J D
 ·cases g with
  |none=>exact mem_append.2 (.inr (mem_append.2 (.inl M)))
  |some b=>
   refine mem_filter.2 ⟨mem_append.2 (.inr (mem_append.2 (.inl M))),?_⟩;have:q.1≠b:=λh=>O b rfl (by rw[←h];exact mem_map.2 ⟨q,M,rfl⟩);simpa using this
def chg_inR (k:Int):inR k 0 6=chg k:=rfl
section
variable (G:Glob) (hG:GOk G)
include hG
end
def oj (q:U×List Pt):AV:=.tup [.agg q.1.cs,.lst 18 (q.2.map Pt.cs)]
section
variable (G:Glob) (hG:GOk G)
include hG
set_option maxHeartbeats 8000000 in
def f21 (u:U) (hu:Good u) (l:List Dd) (hl:l.length<1000000) (hs:∀d∈l,d.it.Shorts):Pure G Tryz.prog 21 [.agg u.cs,.lst 28 (l.map Dd.cs)] (oj (allU u l)):=by
 refine Pure.w c21 λR hR=>?_;unfold s21 r21;unfold oj at hR;(repeat' (first|simp only[EV,seval]|(with_reducible intro M E;(try(have F:=E;simp only[EVK]at F;first|(have D:=AI F D)|(have D:=F))))|fail));rename_i V _ _ _;generalize bh:M=b4 at*
 have q1:¬b4=V:=by simpa[Store.keys]using E
 have be:¬V=b4:=λe=>q1 e.symm;refine ap (ι:=U×List Pt×Option Nat) l (λi r c=>Good c.1/\allU u l=((allU c.1 r).1,c.2.1++(allU c.1 r).2)/\c.2.1.length<=i/\(∀d,c.2.2=some d->d∉Store.keys [(b4,AObj.cells 27 zU),(V,.cells 27 zU)])) (λi c=>[(2,.p V),(4,.p b4),(6,.own c.2.2 40 18 (c.2.1.map Pt.cs)),(11,.lst 28 (l.map Dd.cs)),(12,.i l.length),(13,.i i)]) (λi c=>[(b4,.cells 27 zU),(V,.cells 27 c.1.cs)]++tokS c.2.2 40 (c.2.1.length*18)) (u,[],none) ⟨hu,by simp,by simp,by simp⟩ (Weak.of (by simp[cZ,Env.get,AVle,aT]) (SubN.refl _)) (by omega) (λi x r c T I hw=>?_) (λc T hn=>?_)
 ·obtain⟨Z,J,o3,o4⟩:=T;have N:=f54 G x.it.kind;rw[chg_inR]at N;have X:=f7 G hG c.1 Z x (hs x I.mem);have hA:=f25 G hG c.1 Z x (hs x I.mem);have aw:=(iB Z x).1;have bk:=I.lt;rw[nc]at J;unfold aV at hA;unfold lj at X;have hU:=hJ c.1;have ac:c.1.cs.take 8=c.1.cs:=take_of_length_le (by omega)
  cases hc:chg x.it.kind with
  |false=>
   rw[hc]at N;rw[hc,if_pos (.inl rfl)]at J;(repeat' (first|(with_reducible refine ab N ?_)|simp only[EV,seval,I.yes,I.le0,I.lt',I.get,I.row,hw,Dd.cs,dT,D]|(with_reducible intro M E;(try(have F:=E;simp only[EVK]at F;(have D:=AI F D))))|fail));exact ak I c ⟨Z,J,by omega,o4⟩ (Weak.sub (SubN.tail (SubN.refl _) _))
  |true=>
   rw[hc]at N;rw[hc]at J;obtain⟨⟨p,e⟩,ad⟩:∃z,invP c.1 x=z:=⟨_,rfl⟩;rw[ad]at X J;simp only[Dd.cs,dT]at hA X;simp only at J;have O:=ti p;have aa:p.cs.take 18=p.cs:=take_of_length_le (by omega)
   rcases Classical.em (e=0)with he|he
   ·subst he;rw[if_neg (by simp)]at J
    have an:(doP c.1 x).2=0:=by rw[←inv_err,ad]
    rw[an]at hA;have ah:=hJ (doP c.1 x).1;have al:(doP c.1 x).1.cs.take 8=(doP c.1 x).1.cs:=take_of_length_le (by omega);(repeat' (first|(with_reducible first|refine ab N ?_|refine ab X ?_|refine ab hA ?_)|simp only[EV,seval,I.yes,I.le0,I.lt',I.get,I.row,hw,Dd.cs,dT,O,aa,ah,al,hU,ac,D]|(with_reducible intro M E;(try(have F:=E;simp only[EVK]at F;(have D:=AI F D))))|fail));clear hA N X;rename_i b8 _ _ _ b9 _ _ _;obtain⟨n1,n2,n3,n4⟩:=D
    have bd:∀d,c.2.2=some d->d∈(tokS c.2.2 40 (c.2.1.length*18)).keys:=by
     intro d Y;rw[Y];simp[tokS,Store.keys]
    refine⟨[p.cs],rfl,by simp[O],by simp,?_⟩;refine app_keptL (sz:=18) (bytes:=224) (rows:=c.2.1.map Pt.cs) (ys:=[p.cs]) (m:=c.2.1.length*18) [(M,_)] [(b9,_),(b8,_),(b4,_),(V,_)] ?_ ?_ (by rw[length_map]) ?_ (by rw[length_map];simp;omega) (λgn bb=>?_)
    ·intro q hq;simp only[mem_singleton]at hq;subst hq;simp[Store.keys,n1];simpa[Store.keys]using n1.2.2.2.2
    ·intro d Y;have h1:=bd d Y;have h2:=o4 d Y;simp[Store.keys]at h2 ⊢;refine⟨λq=>n2.2.2.2 (q ▸ h1),λq=>n3.2.2 (q ▸ h1),h2.1,h2.2⟩
    ·simp[Store.keys,n2,n3,q1]
    (repeat' (simp only[EV,seval,n1,n2,n3,q1,be,hw,D]));refine ak I ((doP c.1 x).1,c.2.1++[p],gn) ⟨aw,by rw[J];simp,?_,?_⟩ ?_
    ·rw[length_append];exact Nat.succ_le_succ o3
    ·intro d Y;have:=bb d Y;simp[Store.keys]at this ⊢;exact⟨this.2.2.1,this.2.2.2⟩
    ·simp only[map_append,map_cons,map_nil,length_append,length_map,length_cons,length_nil];exact Weak.sub (SubN.tail (SubN.tail (SubN.refl _) _) _)
   ·rw[if_pos (.inr he)]at J;(repeat' (first|(with_reducible (refine ae (λh=>?_) λh=>?_)<;>(try simp only[DZ]at h))|(with_reducible first|refine ab N ?_|refine ab X ?_)|simp only[EV,seval,I.yes,I.le0,I.lt',I.get,I.row,hw,Dd.cs,dT,he,O,aa,hU,ac,D]|(with_reducible intro M E;(try(have F:=E;simp only[EVK]at F;(have D:=AI F D))))|(exfalso;omega)|fail))
    all_goals exact ak I c ⟨Z,J,by omega,o4⟩ (Weak.sub (SubN.tail (SubN.tail (SubN.refl _) _) _))
 ·(repeat' (simp only[EV,seval,hn,D]));obtain⟨Z,J,o3,o4⟩:=T;rw[allU_nil]at J;simp only[append_nil]at J;rw[J]at hR;exact hR _ _ (.inr ⟨aT.rfl' _,.inr ⟨rfl,rfl⟩,trivial⟩)
end
def inI (n:Int):Prop:=-9223372036854775808<=n/\n<=9223372036854775807
def ia {n:Int} (h:inI n):(Lib.itoa n).length<=21:=Lib.itoa_length_le _ h.1 h.2
def idTx_len {i:Idd} (h:inI i.act/\inI i.item/\inI i.n):(idTx i).length<=100:=by
 have D:=ia h.1;have E:=ia h.2.1;have F:=ia h.2.2;unfold idTx;simp;omega
section
variable (G:Glob)
def f55 (hG:GOk2 G) (i:Idd) (h:inI i.act/\inI i.item/\inI i.n):Pure G Tryz.prog 55 [.agg i.cs] (.str (idTx i)):=by
 have J:=ia h.1;have M:=ia h.2.1;have N:=ia h.2.2;have D:=f108 G hG i.act h.1.1 h.1.2;have E:=f108 G hG i.item h.2.1.1 h.2.1.2;have F:=f108 G hG i.n h.2.2.1 h.2.2.2;refine Pure.w c55 λR I=>?_;unfold s55 r55;unfold Idd.cs;(repeat' (first|(with_reducible first|refine AI (by omega) ?_|refine ab D ?_|refine ab E ?_|refine ab F ?_)|simp only[EV,seval,length_append,length_cons,length_nil]|fail))
 all_goals exact RET.eq I (congrArg AV.str (by simp[idTx]))
end
def mM {l:List Wd} (h:fC l=true):l.length<1000000/\∀w∈l,w.text.length<1000000:=by
 unfold fC at h;simp only[Bool.and_eq_true,all_eq_true,decide_eq_true_eq]at h;exact⟨by omega,λw D=>by have:=h.1 w D;omega⟩
def kv:∀{us:List U},U.shortss us=true->∀k∈us,k.shorts=true
 |[],_,k,hk=>by cases hk
 |u::us,h,k,hk=>by
  rw[U.shortss,Bool.and_eq_true]at h
  rcases mem_cons.1 hk with rfl|hk
  ·exact h.1
  ·exact kv h.2 k hk
def pS:∀u:U,u.shorts=true->∀x∈u.flat,x.label.length<1000000/\x.head.length<1000000/\x.words.length<1000000/\(∀w∈x.head,w.text.length<1000000)/\(∀w∈x.words,w.text.length<1000000):=by
 refine U.ind λu ih h x D=>?_;rw[tp]at h;simp only[Bool.and_eq_true,decide_eq_true_eq]at h;obtain⟨M,F,I,J⟩:=h;rw[U.flat_eq]at D
 rcases mem_cons.1 D with rfl|D
 ·have a:=mM F;have b:=mM I;exact⟨by omega,a.1,b.1,a.2,b.2⟩
 ·obtain⟨k,E,D⟩:=jJ D;exact ih k E (kv J k E) x D
def ls {u:U} (O:u.fit) {m:Int} (T:0<=m) (V:m<=100000) (h:u.few m=true):u.Short:=by
 unfold U.few at h;simp only[Bool.and_eq_true,decide_eq_true_eq]at h;obtain⟨M,N⟩:=h;have Z:=(ua u 0 m T).2.2 M
 exact⟨⟨O,by omega⟩,λx X=>by
  obtain⟨Y,E,F,I,J⟩:=pS u N x X
  exact⟨by omega,E,F,λw D=>by have:=I w D;omega,λw D=>by have:=J w D;omega⟩⟩
def pJ {l:List Stp} (h:cl l=true):∀s∈l,s.label.length<=100:=by
 unfold cl at h;simp only[all_eq_true,decide_eq_true_eq]at h;intro s D;have:=h s D;omega
def oC:∀{l:List Itm},Itm.fews l=true->∀y∈l,y.few=true
 |[],_,y,hy=>by cases hy
 |x::l,h,y,hy=>by
  rw[sN,Bool.and_eq_true,Bool.and_eq_true]at h
  rcases mem_cons.1 hy with rfl|hy
  ·exact h.1.2
  ·exact oC h.2 y hy
def qE:∀x:Itm,x.fit->x.few=true->x.Shorts:=by
 refine Itm.ind λx ih I h=>?_;rw[tD]at h;unfold Itm.few0 at h;simp only[Bool.and_eq_true,decide_eq_true_eq]at h;obtain⟨⟨V,X,Y,Z,a5,a6,a7,a8,a9,D⟩,b1,b2,J,M,N⟩:=h;obtain⟨h1,h2,O,h4,h5,h6,T⟩:=(sg x).1 I;refine(rI x).2 ⟨⟨I,ls O (by omega) (by omega) D,by omega,by omega,λs E=>by have:=pJ J s E;omega,λs E=>by have:=pJ M s E;omega,by omega,by omega,by omega,by omega,by omega,by omega⟩,λy F=>ih y F (T y F) (oC N y F)⟩
section
variable (G:Glob) (hG:GOk G)
include hG
end
def j7 (d e:Dd):Prop:=e.act=d.act/\e.item=d.item
def gf (d:Dd) (x:Idd):Prop:=d.act<1\/d.item<0\/(x.act=d.act/\x.item=d.item)
instance (d e:Dd):Decidable (j7 d e):=inferInstanceAs (Decidable (_/\_))
instance (d:Dd) (x:Idd):Decidable (gf d x):=inferInstanceAs (Decidable (_\/_))
def eY (ids:List Idd):List Dd->List Dd->Bool
 |_,[]=>true
 |p,d::r=>if (∃e∈p,j7 d e)\/(∃x∈ids,gf d x)then false else eY ids (p++[d]) r
def iW (d:Dd):d.cs.length=28:=by unfold Dd.cs;simp[sO]
def ig (d:Dd):(d.cs.drop 1).length=27:=by rw[length_drop,iW]
def j3 (d:Dd):d.cs.headD .any= .i d.act:=rfl
def g8 (d:Dd):(d.cs.drop 1).headD .any= .i d.item:=rfl
def lM {l:List Dd} {i k:Nat} {x y:Dd} (F:RestT l i k y) (h:∀e∈l.take k,¬j7 x e) (E:¬j7 x y):∀e∈l.take (k+1),¬j7 x e:=by
 intro e D;rw[F.take,mem_append,mem_singleton]at D
 rcases D with D|rfl
 ·exact h e D
 ·exact E
section
variable (G:Glob)
def f20 (u:U) (ht:u.Tame) (l:List Dd) (hl:l.length<1000000):Pure G Tryz.prog 20 [.agg u.cs,.lst 28 (l.map Dd.cs)] (.bool (eY u.ids [] l)):=by
 have hA:=f53 G u ht
 have al:u.ids.length<1000000000000000000:=by unfold U.ids;rw[length_map];have:=ht.2;omega
 refine Pure.w c20 λR Z=>?_;unfold s20 r20;(repeat' (first|(with_reducible (first|refine ae (λh=>?_) λh=>?_|refine ai (λh=>?_) λh=>?_)<;>(try simp only[DZ]at h))|(with_reducible refine ab hA ?_)|simp only[EV,seval,iW,ig,j3,g8,M.yes,M.le0,M.lt',M.row,ad,D.le0,D.lt',D.row]|simp only[EV,seval,iW,ig,j3,g8,aa,D.le0,D.lt',D.row,Y]|simp only[EV,seval,iW,ig,j3,g8,D.yes,D.le0,D.lt',D.get,D.row,Y]|simp only[EV,seval,iW,ig,j3,g8,hn]|simp only[EV,seval,iW,ig,j3,g8]|(with_reducible intro V N;(try(have X:=N;simp only[EVK]at X;(have an:=X))))|(refine ap (l) (λi r (c:Unit)=>eY u.ids [] l=eY u.ids (l.take i) r) (λi c=>[(1,.lst 28 (l.map Dd.cs)),(5,.lst 3 (u.ids.map Idd.cs)),(6,.i i)]) (λ_ _=>[]) () (by rfl) (a0 _ _) (by omega) (λi x r c O D Y=>?_) (λc O hn=>?_))|(refine oh (l) (i) (Nat.le_of_lt D.lt) (λk (c:Unit)=>∀e∈l.take k,¬j7 x e) (λk c=>[(1,.lst 28 (l.map Dd.cs)),(5,.lst 3 (u.ids.map Idd.cs)),(6,.i i),(7,.i k)]) (λ_ _=>[]) () (by simp) (a0 _ _) (by have:=D.lt;omega) (λk y c J M ad=>?_) (λc J aa=>?_))|(refine kJ M () ?_ (a0 _ _))))
 ·refine RET.eq Z (congrArg AV.bool ?_);rw[O,eY,if_pos (.inl ⟨y,M.mem,‹_›,h⟩)]
 ·exact lM M J (λE=>h E.2) V N
 ·exact lM M J (λE=>h E.1) V N
 ·have bad:∀{z:Idd},gf x z->z∈u.ids->RET (.bool false) [] R:=λ{z} E hm=>RET.eq Z (congrArg AV.bool (by rw[O,eY,if_pos (.inr ⟨z,hm,E⟩)]))
  have T:∀{j:Nat} {z:Idd} {r2:List Idd},Rest u.ids j z r2->(∀y∈u.ids.take j,¬gf x y)->¬gf x z->∀y∈u.ids.take (j+1),¬gf x y:=λ{j z r2} I h hn y M=>by
   rw[I.take,mem_append,mem_singleton]at M
   rcases M with M|rfl
   ·exact h y M
   ·exact hn
  refine ap u.ids (λj r2 (c:Unit)=>∀z∈u.ids.take j,¬gf x z) (λj c=>[(1,.lst 28 (l.map Dd.cs)),(5,.lst 3 (u.ids.map Idd.cs)),(6,.i i),(8,.i j)]) (λ_ _=>[]) () (by simp) (a0 _ _) (by omega) (λj z r2 c F I ah=>?_) (λc F ac=>?_)
  ·(repeat' (first|(with_reducible (first|refine ae (λh=>?_) λh=>?_|refine ai (λh=>?_) λh=>?_)<;>(try simp only[DZ]at h))|simp only[EV,seval,I.yes,I.le0,I.lt',I.get,I.row,ah,D.le0,D.lt',D.row,Y,iW,ig,j3,g8,Idd.cs]))
   ·exact bad (.inr (.inr ⟨‹_›,h⟩)) I.mem
   ·exact ak I () (T I F λE=>by rcases E with E|E|⟨_,E⟩<;>omega) (a0 _ _)
   ·exact ak I () (T I F λE=>by rcases E with E|E|⟨E,_⟩<;>omega) (a0 _ _)
   ·exact bad (.inr (.inl (by omega))) I.mem
   ·exact bad (.inl (by omega)) I.mem
  ·rw[take_length]at F;(repeat' (simp only[EV,seval,ac,D.le0,D.lt',D.row,Y]));refine ak D () ?_ (a0 _ _);rw[O,eY,if_neg (by rintro(⟨e,he,E⟩|⟨z,I,E⟩);exact J e he E;exact F z I E),D.take]
 ·exact RET.eq Z (by rw[O,eY])
end
def nr (l:List Dd):Bool:=decide (l.length<=8)&&l.all λd=>d.it.few
def fineU (u:U) (l:List Dd):Bool:=u.few 30&&(jg u&&(nr l&&eY u.ids [] l))
def nz {ids:List Idd} (hi:ids≠[]):∀{l p:List Dd},eY ids p l=true->∀d∈l,1<=d.act
 |[],_,_,d,hd=>by cases hd
 |x::l,p,h,d,hd=>by
  rw[eY]at h;split at h
  ·cases h
  ·rename_i E;rw[not_or]at E
   rcases mem_cons.1 hd with rfl|hd
   ·obtain⟨y,F⟩:=exists_mem_of_ne_nil ids hi;have:¬gf d y:=λD=>E.2 ⟨y,F,D⟩;unfold gf at this;omega
   ·exact nz hi h d hd
section
variable (G:Glob)
def f19 (l:List Dd) (X:l.length<9000000000000000000) (O:∀d∈l,d.it.fit):Pure G Tryz.prog 19 [.lst 28 (l.map Dd.cs)] (.bool (nr l)):=by
 refine Pure.w c19 λR F=>?_;unfold s19 r19;unfold nr at F
 have V:decide ((8:Int)<(l.length:Int))= !decide (l.length<=8):=by
  by_cases h:l.length<=8
  ·rw[decide_eq_true h,decide_eq_false (by omega)];rfl
  ·rw[decide_eq_false h,decide_eq_true (by omega)];rfl
 by_cases J:l.length<=8
 ·rw[decide_eq_true J,Bool.true_and]at F;have I:((8:Int)<(l.length:Int))=False:=eq_false (by omega);(repeat' (first|simp only[EV,seval,I,D.yes,D.le0,D.lt',D.get,D.row,N]|simp only[EV,seval,I,T]|simp only[EV,seval,I]|(refine ap l (λi r (c:Unit)=>(l.all λd=>d.it.few)=(r.all λd=>d.it.few)) (λi c=>[(0,.lst 28 (l.map Dd.cs)),(3,.i i)]) (λ_ _=>[]) () rfl (a0 _ _) (by omega) (λi x r c E D N=>?_) (λc E T=>?_))|fail))
  ·have M:=f52 G x.it (O _ D.mem);rw[all_cons]at E;rw[dT]at M;generalize x.it.few=t at*;(repeat' (first|(with_reducible (refine ae (λh=>?_) λh=>?_)<;>(try simp only[DZ]at h))|(with_reducible refine ab M ?_)|simp only[EV,seval,D.yes,D.le0,D.lt',D.get,D.row,N,Dd.cs,dT]|fail))
   ·exact RET.eq F (by rw[E,h];rfl)
   ·exact ak D () (by rw[E,h,Bool.true_and]) (a0 _ _)
  ·(repeat' ((exfalso;omega)));exact RET.eq F (by rw[E];rfl)
 ·rw[decide_eq_false J,Bool.false_and]at F;have I:((8:Int)<(l.length:Int))=True:=eq_true (by omega);(repeat' (simp only[EV,seval,I]));exact RET.eq F rfl
def f5 (u:U) (I:u.fit) (l:List Dd) (Z:l.length<1000000000000000000) (X:∀d∈l,d.it.fit):Pure G Tryz.prog 5 [.agg u.cs,.lst 28 (l.map Dd.cs)] (.bool (fineU u l)):=by
 have F:=f17 G u 30 I (by omega) (by omega);have O:=f19 G l (by omega) X;refine Pure.w c5 λR D=>?_;unfold s5 r5;unfold fineU at D
 cases E:u.few 30 with
 |false=>
  rw[E]at F D;(repeat' (first|(with_reducible refine ab F ?_)|simp only[EV,seval]|fail))
  all_goals exact RQ D
 |true=>
 have V:=ls I (by omega) (by omega) E;have N:=f18 G u V
 cases M:jg u with
 |false=>
  rw[E]at F;rw[E,M]at D;rw[M]at N;(repeat' (first|(with_reducible first|refine ab F ?_|refine ab N ?_)|simp only[EV,seval]|fail))
  all_goals exact RQ D
 |true=>
 rw[M]at N
 cases J:nr l with
 |false=>
  rw[E]at F;rw[E,M,J]at D;rw[J]at O;(repeat' (first|(with_reducible first|refine ab F ?_|refine ab N ?_|refine ab O ?_)|simp only[EV,seval]|fail))
  all_goals exact RQ D
 |true=>
 have Y:l.length<=8:=by
  unfold nr at J;simp only[Bool.and_eq_true,decide_eq_true_eq]at J;exact J.1
 have T:=f20 G u V.1 l (by omega);rw[E]at F;rw[E,M,J]at D;rw[J]at O;simp only[Bool.true_and]at D;(repeat' (first|(with_reducible first|refine ab F ?_|refine ab N ?_|refine ab O ?_|refine ab T ?_)|simp only[EV,seval]|fail))
 all_goals exact RQ D
end
section
variable (G:Glob)
variable (hG:GOk G)
include hG
end
def le_zU:LeRep (.agg zU) (.agg fE.cs):=by
 refine LeRep.agg ?_;rw[b0];unfold zU
 repeat' first
  |exact LeReps.nil
  |refine LeReps.cons ?_ ?_
 all_goals first|exact LeRep.refl _|exact LeRep.nil
section
variable (G:Glob) (hG:GOk G)
def f22:Pure G Tryz.prog 22 [] (.agg zU):=by
 refine Pure.w c22 λR I=>?_;unfold s22 r22;(repeat' (first|simp only[EV,seval]|(with_reducible intro F D;(try(have E:=D;simp only[EVK]at E;(have J:=E))))|fail))
 all_goals exact RQ I
include hG
end
def gE:U:=⟨zId,2,[53],[],[],[]⟩
def eItm:Itm:=⟨0,[],[],1,0,gE,[],[],[],[],⟨0,0,[]⟩,0,0,0,[],[]⟩
def eDd:Dd:=⟨1,0,0,eItm⟩
def ePt:Pt:=⟨0,0,⟨1,0,1⟩,zId,noU,[],[]⟩
def kg:U:=⟨zId,0,[],[],[],[⟨⟨1,0,1⟩,2,[53],[],[],[]⟩]⟩
set_option maxRecDepth 100000 in
def e_all:allU fE [eDd]=(kg,[ePt]):=by kernel_rfl
set_option maxRecDepth 100000 in
def e_rev:remT kg ePt.id=(fE,0):=by kernel_rfl
def e_unit:gE.Short:=by
 have F:gE.fit:=(rN _).2 ⟨by decide,⟨by decide,by simp[gE]⟩,⟨by decide,by simp[gE]⟩,by decide,by simp[gE]⟩
 have D:gE.flat=[gE]:=by rw[U.flat_eq];show gE::U.flats []=_;rw[U.flats]
 refine⟨⟨F,by rw[D];decide⟩,?_⟩;rw[D];intro x E;simp only[mem_singleton]at E;subst E;exact⟨by decide,by decide,by decide,by simp[gE],by simp[gE]⟩
def e_itm:eItm.Shorts:=(rI _).2 ⟨⟨(sg _).2 ⟨by decide,by decide,e_unit.1.1,by decide,by decide,by decide,by simp[eItm]⟩,e_unit,by decide,by decide,by simp[eItm],by simp[eItm],by decide,by decide,by decide,by decide,by decide,by decide⟩,by simp[eItm]⟩
def eRow:List AV:=[.i 1,.i 0,.i 0,.i 0,.nil,.nil,.i 1,.i 0,.i 0,.i 0,.i 0,.i 2,.str [53],.nil,.nil,.nil,.nil,.nil,.str [],.str [],.i 0,.i 0,.str [],.i 0,.i 0,.i 0,.str [],.nil]
def le_eRow:LeReps eRow (Dd.cs eDd):=by
 unfold eRow Dd.cs;rw[dT]
 repeat' first
  |exact LeReps.nil
  |refine LeReps.cons ?_ ?_
 all_goals first|exact LeRep.refl _|exact LeRep.nil
def e_good:Good kg:=by
 have:=(kd (l:=[eDd]) (u:=fE) lL rfl).1;rw[e_all]at this;exact this
def eAV:AV:=.tup [.agg [.i 0,.i 0,.i 0,.i 0,.str [],.lst 4 [],.lst 4 [],.lst 8 [[.i 1,.i 0,.i 1,.i 2,.str [53],.lst 4 [],.lst 4 [],.lst 8 []]]],
 .lst 18 [[.i 0,.i 0,.i 1,.i 0,.i 1,.i 0,.i 0,.i 0,.i 0,.i 0,.i 0,.i 0,.str [],.lst 4 [],.lst 4 [],.lst 8 [],.str [],.lst 4 []]]]
def e_av:oj (kg,[ePt])=eAV:=by kernel_rfl
def e_bk:kg.cs=[.i 0,.i 0,.i 0,.i 0,.str [],.lst 4 [],.lst 4 [],.lst 8 [[.i 1,.i 0,.i 1,.i 2,.str [53],.lst 4 [],.lst 4 [],.lst 8 []]]]:=by kernel_rfl
def e_pt:ePt.cs=[.i 0,.i 0,.i 1,.i 0,.i 1,.i 0,.i 0,.i 0,.i 0,.i 0,.i 0,.i 0,.str [],.lst 4 [],.lst 4 [],.lst 8 [],.str [],.lst 4 []]:=by kernel_rfl
def e_em:aV (fE,0)= .tup [.agg [.i 0,.i 0,.i 0,.i 0,.str [],.lst 4 [],.lst 4 [],.lst 8 []],.i 0]:=by kernel_rfl
def e_tx:[105,110,115,101,114,116,101,100,32]++idTx ePt.id=[105,110,115,101,114,116,101,100,32,49,46,48,46,49]:=by
 unfold idTx ePt;rw[iU (n:=1) (by decide) (by decide),iU (n:=0) (by decide) (by decide)];rfl
section
variable (G:Glob) (hG:GOk G) (hG2:GOk2 G)
def Fmt0 (hG2:GOk2 G) (p:Pt) (N:p.kind=0) (h:inI p.id.act/\inI p.id.item/\inI p.id.n):Pure G Tryz.prog 23 [.agg p.cs] (.str ([105,110,115,101,114,116,101,100,32]++idTx p.id)):=by
 have T:=idTx_len h;have I:=f55 G hG2 p.id h;simp only[Idd.cs]at I;have J:decide (p.kind=0)=true:=decide_eq_true N;refine Pure.w c23 λR O=>?_;unfold s23 r23;unfold Pt.cs;(repeat' (first|(with_reducible (first|refine ae (λh=>?_) λh=>?_|refine ai (λh=>?_) λh=>?_|refine ax (λh=>?_) λh=>?_)<;>(try simp only[DZ]at h))|(with_reducible first|refine AI (by omega) ?_|refine ab I ?_)|simp only[EV,seval,J,length_append,length_cons,length_nil,D]|simp only[EV,seval,J,length_append,length_cons,length_nil]|(with_reducible intro M F;(try(have E:=F;simp only[EVK]at E;first|(have D:=AI E D)|(have D:=E))))|(with_reducible first|refine af ?_ ?_|refine ag ?_)|(exfalso;omega)))
 all_goals exact RQ O
include hG
def u_call (g:Option Nat):Pure G Tryz.prog 21 [.agg zU,.own g 36 28 [eRow]] (oj (kg,[ePt])):=by
 have h:=f21 G hG fE lL [eDd] (by decide) (λx D=>by
  simp only[mem_singleton]at D
  subst D
  exact e_itm)
 rw[e_all]at h;exact h.lr (.cons le_zU (.cons (LeRep.own (.cons le_eRow .nil)) .nil))
include hG2
set_option maxHeartbeats 4000000 in
def f6:Pure G Tryz.prog 6 [] (.bool true):=by
 have M:=f22 G;have J:=u_call G hG;have N:=Fmt0 G hG2 ePt rfl ⟨⟨by decide,by decide⟩,⟨by decide,by decide⟩,by decide,by decide⟩;have F:=rev_of G kg ePt 111 rfl _ (f111 G hG kg e_good ePt);rw[e_rev,e_em,e_bk,e_pt]at F;rw[e_tx,e_pt]at N;rw[e_av]at J;unfold eAV zU eRow at J;unfold zU at M;refine Pure.w c6 λR T=>?_;unfold s6 r6;(repeat' (first|(with_reducible (first|refine ae (λh=>?_) λh=>?_|refine ai (λh=>?_) λh=>?_|refine ax (λh=>?_) λh=>?_)<;>(try simp only[DZ]at h))|(with_reducible first|refine AI (by omega) ?_|refine ab M ?_|refine ab (J _) ?_|refine ab N ?_|refine ab F ?_)|simp only[EV,seval,D]|simp only[EV,seval]|(with_reducible intro O I;(try(have E:=I;simp only[EVK]at E;first|(have D:=AI E D)|(have D:=E))))|(with_reducible first|refine af ?_ ?_|refine ag ?_)|(refine⟨[[.i 1,.i 0,.i 0,.i 0,.nil,.nil,.i 1,.i 0,.i 0,.i 0,.i 0,.i 2,.str [53],.nil,.nil,.nil,.nil,.nil,.str [],.str [],.i 0,.i 0,.str [],.i 0,.i 0,.i 0,.str [],.nil]],rfl,(by simp),rfl,?_⟩)|(exfalso;omega)))
 all_goals first|exact RQ T|(exfalso;revert h;decide)|(exfalso;simp at h;done)|(exfalso;omega)
end
def qe {u:U} {l:List Dd} (J:u.fit) (N:∀d∈l,d.it.fit) (h:fineU u l=true):Good u/\u.kind=0/\l.length<=8/\(∀d∈l,d.it.Shorts)/\∀d∈l,1<=d.act:=by
 unfold fineU at h;simp only[Bool.and_eq_true]at h;obtain⟨T,D,E,M⟩:=h;have O:=pW D
 have F:u.kind=0:=by unfold jg at D;simp only[Bool.and_eq_true,decide_eq_true_eq]at D;exact D.1
 unfold nr at E;simp only[Bool.and_eq_true,decide_eq_true_eq,all_eq_true]at E;exact⟨O,F,E.1,λd I=>qE d.it (N d I) (E.2 d I),nz (by rw[o5];simp) M⟩
def j1:noU.flat.length<=1000000:=by
 have D:noU.flat=[noU]:=by rw[U.flat_eq];show noU::U.flats []=_;rw[U.flats]
 rw[D];decide
def undo_unit {u:U} (I:Good u) (d:Dd):(invP u d).1.unit.Short/\(invP u d).1.unit.flat.length<=1000000/\(invP u d).1.words.length<1000000:=by
 have J:=I.short;have D:=nl J (one u d.it.at_).1
 have F:(fnd (one u d.it.at_).1 u).flat.length<=1000000:=by have:=D.1.2;omega
 have E:=(D.2 _ (U.flat_self _));unfold invP;split
 ·exact⟨fc,j1,by simp[zPt]⟩
 ·unfold mkPt;split
  ·exact⟨fc,j1,by simp⟩
  split
  ·exact⟨D,F,by simp⟩
  split
  ·exact⟨fc,j1,E.2.2.1⟩
  split
  ·exact⟨fc,j1,E.2.1⟩
  split
  ·exact⟨fc,j1,by simp⟩
  ·exact⟨fc,j1,by simp⟩
def short_fit:∀u:U,u.Short->u.fit:=U.ind λu ih h=>by
 obtain⟨E,J,M,F,I⟩:=h.2 u (U.flat_self u);have D:=h.1.kids;exact(rN u).2 ⟨E,⟨by show _<_;omega,F⟩,⟨by show _<_;omega,I⟩,by show _<_;omega,λk D=>ih k D (h.kid D)⟩
section
variable (G:Glob)
set_option maxHeartbeats 4000000 in
def f9 (p:Pt) (I:p.unit.Short) (J:p.words.length<1000000):Pure G Tryz.prog 9 [.agg p.cs,.agg p.cs] (.bool true):=by
 have E:=f35 G p.unit (short_fit _ I) p.unit;have D:=f36 G p.words p.words (by omega);rw[decide_eq_true rfl]at E D;rw[b0 p.unit]at E;refine Pure.w c9 λR F=>?_;unfold s9 r9;unfold Pt.cs;(repeat' (first|(with_reducible (refine ai (λh=>?_) λh=>?_)<;>(try simp only[DZ]at h))|(with_reducible first|refine ab E ?_|refine ab D ?_)|simp only[EV,seval]|fail))
 all_goals first|exact RQ F|exact absurd h (by decide)
end
section
variable (G:Glob) (hG:GOk G) (hG2:GOk2 G)
include hG hG2
set_option maxHeartbeats 8000000 in
def f3 (u:U) (N:u.fit) (d:Dd) (hb:d.it.big):Pure G Tryz.prog 3 [.agg u.cs,.agg d.cs] (.bool true):=by
 have hf:=big_fit d.it hb;have O:=f6 G hG hG2;have D:=f5 G u N [d] (by simp) (λx hx=>by simp only[mem_singleton]at hx;subst hx;exact hf)
 have E:d.cs.length=28:=by unfold Dd.cs;simp[sO]
 simp only[map_cons,map_nil]at D
 cases h1:fineU u [d]with
 |false=>
  rw[h1]at D;unfold Dd.cs at D E ⊢;rw[dT]at D E ⊢;refine Pure.w c3 λR hR=>?_;unfold s3 r3;(repeat' (first|(with_reducible refine ab O ?_)|simp only[EV,seval,J]|simp only[EV,seval]|(with_reducible intro aa I;(try(have F:=I;simp only[EVK]at F;(have J:=F))))|(refine⟨[_],rfl,(by intro r Z;simp only[mem_singleton]at Z;subst Z;exact E),rfl,?_⟩)|(refine aS D ⟨rH _,.inl (.inr ⟨rfl,rfl⟩),trivial⟩ ?_)|fail))
  all_goals exact RQ hR
 |true=>
 rw[h1]at D;obtain⟨hg,ad,_,M,ha⟩:=qe N (λx hx=>by simp only[mem_singleton]at hx;subst hx;exact hf) h1;have M:=M d (by simp);have X:=f7 G hG u hg d M;have Y:=f8 G u hg d M;obtain⟨y1,y2,y3⟩:=undo_unit hg d;have ac:=f9 G (invP u d).1 y1 y3;unfold lj at X Y;have hU:=b0 u;have T:=ti (invP u d).1;have V:(invP u d).1.cs.take 18=(invP u d).1.cs:=take_of_length_le (by omega);generalize (invP u d).1.cs=ps at*;generalize (invP u d).2=e at*;have e2:decide (e≠e)=false:=decide_eq_false (λh=>h rfl);have e3:decide (e=e)=true:=decide_eq_true rfl;unfold Dd.cs at D E X Y ⊢;rw[dT]at D E X Y ⊢;rw[hU]at D X Y ⊢;refine Pure.w c3 λR hR=>?_;unfold s3 r3;(repeat' (first|(with_reducible first|refine ab O ?_|refine ab X ?_|refine ab Y ?_|refine ab ac ?_)|simp only[EV,seval,T,V,e2,e3,J]|simp only[EV,seval,T,V,e2,e3]|(with_reducible intro aa I;(try(have F:=I;simp only[EVK]at F;first|(have J:=AI F J)|(have J:=F))))|(refine⟨[_],rfl,(by intro r Z;simp only[mem_singleton]at Z;subst Z;exact E),rfl,?_⟩)|(refine aS D ⟨rH _,.inl (.inr ⟨rfl,rfl⟩),trivial⟩ ?_)|fail))
 all_goals exact RQ hR
end
end Go.Av
