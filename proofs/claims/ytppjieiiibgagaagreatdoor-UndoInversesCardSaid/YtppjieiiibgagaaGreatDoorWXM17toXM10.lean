/-
  ENACT, M17: the units that an address means, by the program.
-/
import Derived.Test.YtppjieiiibgagaaGreatDoorWXM6toXM8
import Derived.Test.YtppjieiiibgagaaGreatDoorWXAv34toXM15
import Derived.Test.YtppjieiiibgagaaGreatDoorWXM9toXOpE
set_option linter.all false
namespace Go.Av
open Go Go.RowKit Go.Proofs List
section
variable (G:Glob)
def f253 (f:Value) (N:Nat) (St:List U->Store->Prop) (hN:N<1000000):
  ∀(u:U),u.Tame->(∀x∈u.flat,∀pre σ,St pre σ->pre.length<N->cu G Tryz.prog f [.agg x.cs] σ (λr σ'=>St (pre++[x]) σ'))->
   ∀pre σ,St pre σ->pre.length+u.flat.length<=N->aj G Tryz.prog 253 [.agg u.cs,.sc f] σ (λr σ'=>St (pre++u.flat) σ'):=by
 refine U.ind λu ih ht hf pre σ X ah=>?_
 have ad:=ht.kids
 have J:=u.flat_eq
 have ac:u.flat.length=1+(U.flats u.kids).length:=by rw[J,length_cons];omega
 refine aj.w c253 ?_
 unfold s253 r253
 (repeat' (simp only[EV,seval]))
 refine bl σ [] (hf u u.flat_self pre σ X (by omega)) (hH _) (by simpa using SubN.refl _) ?_
 rintro r σ' F
 rw[append_nil]
 (repeat' (first|simp only[EV,seval,D.yes,D.le0,D.lt',D.get,D.row,hw]|simp only[EV,seval,hn]|simp only[EV,seval]|(with_reducible intro T I;(try(have M:=I;simp only[EVK]at M;(have al:=M))))|(refine ap (ι:=Store×List U) u.kids (λi r c=>St c.2 c.1/\pre++u.flat=c.2++U.flats r/\c.2.length+(U.flats r).length<=N) (λi c=>[(1,.sc f),(10,.lst 8 (u.kids.map U.cs)),(11,.i u.kids.length),(12,.i i)]) (λi c=>c.1) (σ',pre++[u]) ⟨F,by rw[J];simp,by simp;omega⟩ (a0 _ _) (by omega) (λi x r c E D hw=>?_) (λc E hn=>?_))))
 ·obtain⟨Y,O,Z⟩:=E
  rw[aI]at O Z;rw[length_append]at Z;refine bl c.1 [(T,.cells 27 x.cs)] (ih x D.mem (ht.kid D.mem) (λy hy=>hf y (mS D.mem hy)) c.2 c.1 Y (by omega)).v (hH _) sE ?_;rintro r' aa V;(repeat' (simp only[EV,seval,hw]));exact ak D (aa,c.2++x.flat) ⟨V,by rw[O,append_assoc],by simp;omega⟩ (Weak.sub SubN.left)
 ·obtain⟨Y,O,Z⟩:=E
  exact RET.mk (SubN.refl _) (by rw[O,bv,append_nil];exact Y)
def St1 (D E:Nat) (p:List Stp) (s:Stp) (pre:List U) (σ:Store):Prop:=∃v κ,(bI 27 8 ((pre.filter λx=>ay x s).map U.cs) v κ\/(pre.filter λx=>ay x s)=[]/\v= .nil/\κ=[])/\σ=[(D,.cells 28 [.lst 2 (p.map Stp.cs)]),(E,.cells 25 [v])]++κ
def f254 (b3 b5:Nat) (s:Stp) (rs:List Stp) (x:U) (pre:List U) (bs:pre.length<1000000) (σ:Store) (hS:St1 b3 b5 (s::rs) s pre σ):
  aj G Tryz.prog 254 [.agg x.cs,.p b3,.p b5] σ (λr σ'=>St1 b3 b5 (s::rs) s (pre++[x]) σ'):=by
 obtain⟨v,κ,ho,rfl⟩:=hS
 have hC:=f255 G x s
 have aw:(pre.filter λx=>ay x s).length<=pre.length:=length_filter_le _ _
 obtain⟨L,hL⟩:∃L,pre.filter (λx=>ay x s)=L:=⟨_,rfl⟩
 rw[hL]at ho aw
 refine aj.wn c254 λT=>?_
 unfold s254 r254
 have N:(pre++[x]).filter (λx=>ay x s)=if ay x s=true then L++[x]else L:=by
  rw[filter_append,hL]
  cases hq:ay x s<;>simp[hq]
 rcases ho with⟨ac,cap,rfl,⟨h0,rfl,rfl⟩|⟨b,pad,rfl,rfl,h1,h2,h3,h4⟩⟩|⟨h0,rfl,rfl⟩
 ·have bm:L=[]:=by simpa using h0
  subst bm
  have E:¬b5=b3:=by simp[Store.keys]at T;exact λe=>T e.symm
  have F:¬b3=b5:=λe=>E e.symm
  cases hc:ay x s with
  |false=>
   rw[hc]at hC N;(repeat' (first|(with_reducible first|refine AI (by omega) ?_|refine ab hC ?_)|simp only[EV,seval,E,F,map_cons,getD_cons_zero]))
   all_goals exact rv (SubN.refl _) ⟨_,[],.inl (by rw[N];exact⟨ac,0,rfl,.inl ⟨rfl,rfl,rfl⟩⟩),rfl⟩
  |true=>
   rw[hc]at hC N
   have bo:lD (.slice ac 0 0):=by
    cases ac with
    |none=>exact .inl rfl
    |some a=>exact .inr ⟨a,rfl⟩
   obtain⟨O,aa⟩:∃O:List AV,O=[.i 0,.i 0,.i 0,.i 0,.str [],.nil,.nil,.nil]:=⟨_,rfl⟩
   have I:O.length=8:=by rw[aa];rfl
   have ah:∀D:List AV,([O].flatten++D).drop 8=D:=λD=>by rw[←I];simp
   have bb:∀D:List AV,8<=([O].flatten++D).length:=λD=>by rw[length_append];simp[I]
   (repeat' (first|(with_reducible first|refine AI (by omega) ?_|refine ab hC ?_)|simp only[EV,seval,E,F,map_cons,getD_cons_zero,dZ,ah,J]|simp only[EV,seval,E,F,map_cons,getD_cons_zero,dZ,ah]|(with_reducible intro bd Y;(try(have Z:=Y;simp only[EVK]at Z;(have J:=Z))))|(with_reducible refine af ?_ ?_)|(refine⟨[O],rfl,(by simp[I]),(by simp[aa]),?_⟩)|(refine cj (e:=27) (e':=27) (sz:=8) (bytes:=120) (rows:=[]) (ys:=[O]) (g:=none) (xv:=.sc (.slice ac 0 0)) (by kernel_rfl) (by kernel_rfl) (by kernel_rfl) (by kernel_rfl) (by decide) (by decide) rfl (.inl ⟨rfl,rfl,.inr ⟨_,rfl,bo⟩⟩) ⟨rfl,rfl⟩ (by simp) (λ_ h=>by cases h) (λb' M D hb g1 g2 g3 g4=>?_))|((simp only[EVK,dZ]at hb;have J:=AI hb J))|(refine⟨bb _,_,_,a0 _ _,?_⟩)))
   all_goals
    refine rv (σ':=[(b3,AObj.cells 28 [.lst 2 ((s::rs).map Stp.cs)]),(b5,AObj.cells 25 [.sc (.slice (some ⟨b',0,none⟩) 1 M)])]++[(b',AObj.cells 27 (x.cs++D))]) (SubN.trans (nm (perm_append_comm (l₁:=[_,_]) (l₂:=[_]))) (SubN.cons (SubN.tail (SubN.refl _) _) _)) ⟨_,_,.inl ?_,rfl⟩
    have:=bI.mk (e:=27) (sz:=8) (b:=b') (rows:=[x.cs]) (pad:=D) (n:=1) (cap:=M) rfl g1 g2 (by simp[hJ]) (by rw[←g4];simp[hJ,I])
    rw[N]
    simpa using this
 ·have E:¬b5=b3:=by simp[Store.keys]at T;exact λe=>T.1.1 e.symm
  have F:¬b3=b5:=λe=>E e.symm
  have V:¬b3=b:=by simp[Store.keys]at T;exact T.1.2
  have X:¬b5=b:=by simp[Store.keys]at T;exact T.2
  have al:¬b=b3:=λe=>V e.symm;have an:¬b=b5:=λe=>X e.symm;rw[length_map]at h1
  cases hc:ay x s with
  |false=>
   rw[hc]at hC N;(repeat' (first|(with_reducible first|refine AI (by omega) ?_|refine ab hC ?_)|simp only[EV,seval,E,F,V,X,al,an,map_cons,getD_cons_zero,length_map]))
   all_goals exact rv (SubN.refl _) ⟨_,[(b,_)],.inl (by rw[N];exact bI.mk (by simp) (by rw[length_map];exact h1) h2 h3 h4),rfl⟩
  |true=>
   rw[hc]at hC N;obtain⟨O,aa⟩:∃O:List AV,O=[.i 0,.i 0,.i 0,.i 0,.str [],.nil,.nil,.nil]:=⟨_,rfl⟩
   have I:O.length=8:=by rw[aa];rfl
   obtain⟨R0,ad⟩:∃R0,L.map U.cs=R0:=⟨_,rfl⟩
   have bn:R0.length=L.length:=by rw[←ad,length_map]
   rw[ad]at h3 h4;have aw:=aA R0 h3
   have bk:∀D:List AV,aM ((R0++[O]).flatten++D) (0+R0.length*8) x.cs=(R0++[x.cs]).flatten++D:=λD=>by
    rw[flatten_append,flatten_append,append_assoc,append_assoc];simpa using fe (A:=R0.flatten) (B:=O) (B':=x.cs) (C:=D) (o:=R0.length*8) (by rw[aw]) (by rw[hJ,I])
   have bb:∀D:List AV,0+R0.length*8+8<=((R0++[O]).flatten++D).length:=λD=>by rw[length_append,flatten_append,length_append,aw];simp[I]
   have be:(R0++[O]).length=R0.length+1:=by rw[length_append];rfl
   (repeat' (first|(with_reducible first|refine AI (by omega) ?_|refine ab hC ?_)|simp only[EV,seval,E,F,V,X,al,an,map_cons,getD_cons_zero,length_map,gi,mP,bk,be,ad,J]|simp only[EV,seval,E,F,V,X,al,an,map_cons,getD_cons_zero,length_map,gi,mP,bk,be,ad]|(with_reducible intro bd Y;(try(have Z:=Y;simp only[EVK]at Z;(have J:=Z))))|(with_reducible first|refine af ?_ ?_|refine ag ?_)|(refine⟨[O],rfl,(by simp[I]),(by simp[aa]),?_⟩)|(refine cj (e:=27) (e':=27) (sz:=8) (bytes:=120) (rows:=R0) (ys:=[O]) (g:=some b) (xv:=.sc (.slice (some ⟨b,0,none⟩) R0.length cap)) (by kernel_rfl) (by kernel_rfl) (by kernel_rfl) (by kernel_rfl) (by decide) (by decide) rfl (.inr ⟨b,cap,pad,rfl,rfl,(by simp[Store.get,J,V,X]),h3,h4,by omega,h2⟩) ⟨rfl,rfl⟩ (by rw[bn];simp;omega) (λ_ h=>by cases h) (λb' M D hb g1 g2 g3 g4=>?_))|((simp[Store.keys,Store.erase,J,V,X]at hb;have J:=AI hb J))))
   all_goals
    refine rv (σ':=[(b3,AObj.cells 28 [.lst 2 ((s::rs).map Stp.cs)]),(b5,AObj.cells 25 [.sc (.slice (some ⟨b',0,none⟩) (R0.length+1) M)])]++[(b',AObj.cells 27 ((R0++[x.cs]).flatten++D))]) (SubN.trans (nm (perm_append_comm (l₁:=[_,_]) (l₂:=[_]))) (SubN.cons (SubN.tail (SubN.refl _) _) _)) ⟨_,_,.inl ?_,rfl⟩
    have bh:∀r∈R0++[x.cs],r.length=8:=λr hr=>by
     rcases mem_append.1 hr with hr|hr
     ·exact h3 r hr
     ·simp only[mem_singleton]at hr;subst hr;exact hJ x
    have:=bI.mk (e:=27) (sz:=8) (b:=b') (rows:=R0++[x.cs]) (pad:=D) (n:=R0.length+1) (cap:=M) (by simp) (by simpa using g1) g2 bh (by rw[←g4];simp[hJ,I])
    rw[N]
    simpa[ad]using this
 ·subst h0
  have E:¬b5=b3:=by simp[Store.keys]at T;exact λe=>T e.symm
  have F:¬b3=b5:=λe=>E e.symm
  cases hc:ay x s with
  |false=>
   rw[hc]at hC N;(repeat' (first|(with_reducible first|refine AI (by omega) ?_|refine ab hC ?_)|simp only[EV,seval,E,F,map_cons,getD_cons_zero]))
   all_goals exact rv (SubN.refl _) ⟨_,[],.inr ⟨by rw[N];rfl,rfl,rfl⟩,rfl⟩
  |true=>
   rw[hc]at hC N;obtain⟨O,aa⟩:∃O:List AV,O=[.i 0,.i 0,.i 0,.i 0,.str [],.nil,.nil,.nil]:=⟨_,rfl⟩
   have I:O.length=8:=by rw[aa];rfl
   have ah:∀D:List AV,([O].flatten++D).drop 8=D:=λD=>by rw[←I];simp
   have bb:∀D:List AV,8<=([O].flatten++D).length:=λD=>by rw[length_append];simp[I]
   (repeat' (first|(with_reducible first|refine AI (by omega) ?_|refine ab hC ?_)|simp only[EV,seval,E,F,map_cons,getD_cons_zero,dZ,ah,J]|simp only[EV,seval,E,F,map_cons,getD_cons_zero,dZ,ah]|(with_reducible intro bd Y;(try(have Z:=Y;simp only[EVK]at Z;(have J:=Z))))|(with_reducible refine af ?_ ?_)|(refine⟨[O],rfl,(by simp[I]),(by simp[aa]),?_⟩)|(refine cj (e:=27) (e':=27) (sz:=8) (bytes:=120) (rows:=[]) (ys:=[O]) (g:=none) (xv:=.nil) (by kernel_rfl) (by kernel_rfl) (by kernel_rfl) (by kernel_rfl) (by decide) (by decide) rfl (.inl ⟨rfl,rfl,.inl rfl⟩) ⟨rfl,rfl⟩ (by simp) (λ_ h=>by cases h) (λb' M D hb g1 g2 g3 g4=>?_))|((simp only[EVK,dZ]at hb;have J:=AI hb J))|(refine⟨bb _,_,_,a0 _ _,?_⟩)))
   all_goals
    refine rv (σ':=[(b3,AObj.cells 28 [.lst 2 ((s::rs).map Stp.cs)]),(b5,AObj.cells 25 [.sc (.slice (some ⟨b',0,none⟩) 1 M)])]++[(b',AObj.cells 27 (x.cs++D))]) (SubN.trans (nm (perm_append_comm (l₁:=[_,_]) (l₂:=[_]))) (SubN.cons (SubN.tail (SubN.refl _) _) _)) ⟨_,_,.inl ?_,rfl⟩
    have:=bI.mk (e:=27) (sz:=8) (b:=b') (rows:=[x.cs]) (pad:=D) (n:=1) (cap:=M) rfl g1 g2 (by simp[hJ]) (by rw[←g4];simp[hJ,I])
    rw[N]
    simpa using this
end
section
variable (G:Glob)
set_option maxHeartbeats 2000000 in
def f134 (u:U) (p:List Stp) (ht:u.Tame) (hN:u.flat.length<=1024) (hp:p.length<1000000):Pure G Tryz.prog 134 [.agg u.cs,.lst 2 (p.map Stp.cs)] (.lst 8 ((ek u p).map U.cs)):=by
 have hM:=f131 G p hp;refine Pure.w c134 λR hR=>?_;unfold s134 r134;unfold ek at hR
 cases bw:cI p with
 |false=>
  rw[bw,if_pos rfl]at hR;rw[bw]at hM;(repeat' (first|(with_reducible (first|refine ae (λh=>?_) λh=>?_|refine ai (λh=>?_) λh=>?_|refine ax (λh=>?_) λh=>?_)<;>(try simp only[DZ]at h))|(with_reducible first|refine AI (by omega) ?_|refine ab hM ?_)|simp only[EV,seval,D]|simp only[EV,seval]|(with_reducible intro I F;(try(have E:=F;simp only[EVK]at E;first|(have D:=AI E D)|(have D:=E))))|(with_reducible first|refine af ?_ ?_|refine ag ?_)|(exfalso;omega)));exact hR _ _ (Or.inl (Or.inr rfl))
 |true=>
  rw[bw]at hM hR;simp only[Bool.true_eq_false,if_false]at hR;by_cases h0:p=[]
  ·subst h0;simp only[map_nil]at hM ⊢;(repeat' (first|(with_reducible (first|refine ae (λh=>?_) λh=>?_|refine ai (λh=>?_) λh=>?_|refine ax (λh=>?_) λh=>?_)<;>(try simp only[DZ]at h))|(with_reducible first|refine AI (by omega) ?_|refine ab hM ?_)|simp only[EV,seval,D]|simp only[EV,seval]|(with_reducible intro I F;(try(have E:=F;simp only[EVK]at E;first|(have D:=AI E D)|(have D:=E))))|(with_reducible first|refine af ?_ ?_|refine ag ?_)|(refine⟨[u.cs],rfl,(by simp[hJ]),(by simp),?_⟩)|(exfalso;omega)));exact hR _ _ (Or.inl (Or.inr ⟨rfl,rfl⟩))
  ·obtain⟨s,r,X⟩:∃s r,p=s::r:=by cases p<;>simp_all
   have d3:∀x σ,AVle x (.lst 8 ((r.foldl aF (cC u s)).map U.cs))->RET x σ R:=by
    rw[X]at hR;exact hR
   clear hR
   have e2:p.length=r.length+1:=by rw[X];simp
   have ad:(p.map Stp.cs).getD 0 []=s.cs:=by rw[X];rfl
   have e0:decide ((p.length:Int)=0)=false:=decide_eq_false (by omega)
   have V:List.drop 1 (List.take p.length (p.map Stp.cs))=r.map Stp.cs:=by rw[take_of_length_le (by simp),X];rfl
   have e7:(r.map Stp.cs).length=r.length:=by simp
   have hB:=f251 G s.kind s.label;have ch:u.flat.length*u.flat.length<=1048576:=Nat.mul_le_mul hN hN;have cw:=iX u s;have bb:=ei (cC u s)
   cases hb:kB s
   case' true=>
    have bn:(decide (s.kind=0)&&decide (s.label=[]))=true:=hb;rw[bn]at hB
    have aa:cC u s=[u]:=by unfold cC;rw[hb];rfl
    (repeat' (first|(with_reducible (first|refine ae (λh=>?_) λh=>?_|refine ai (λh=>?_) λh=>?_|refine ax (λh=>?_) λh=>?_)<;>(try simp only[DZ]at h))|(with_reducible first|refine AI (by omega) ?_|refine ab hM ?_|refine ab hB ?_)|simp only[EV,seval,ad,e0,V,D]|simp only[EV,seval,ad,e0,V]|(with_reducible intro I F;(try(have E:=F;simp only[EVK]at E;first|(have D:=AI E D)|(have D:=E))))|(with_reducible first|refine af ?_ ?_|refine ag ?_)|(refine⟨[u.cs],rfl,(by simp[hJ]),(by simp),?_⟩)|(exfalso;omega)));rename_i b3 _ _ _ N _ _ _
    have bk:∀env,Weak G env [(I,.tok 27 8),(N,.cells 25 [.own (some I) 27 8 [u.cs]]),(b3,.cells 28 [.lst 2 (p.map Stp.cs)])] env [(N,.cells 25 [.lst 8 ((cC u s).map U.cs)])]:=λenv=>
     Weak.trans (Weak.sub (SubN.tail (SubN.cons (SubN.nil _) _) _)) (Weak.st ⟨rfl,rfl,⟨.inr ⟨rfl,by rw[aa];rfl⟩,trivial⟩,trivial⟩)
    clear F E D
   case' false=>
    have bn:(decide (s.kind=0)&&decide (s.label=[]))=false:=hb;rw[bn]at hB
    have aa:cC u s=u.flat.filter λx=>ay x s:=by unfold cC;rw[hb];rfl
    (repeat' (first|(with_reducible (first|refine ae (λh=>?_) λh=>?_|refine ai (λh=>?_) λh=>?_|refine ax (λh=>?_) λh=>?_)<;>(try simp only[DZ]at h))|(with_reducible first|refine AI (by omega) ?_|refine ab hM ?_|refine ab hB ?_)|simp only[EV,seval,ad,e0,V,D]|simp only[EV,seval,ad,e0,V]|(with_reducible intro I F;(try(have E:=F;simp only[EVK]at E;first|(have D:=AI E D)|(have D:=E))))|(with_reducible first|refine af ?_ ?_|refine ag ?_)|(exfalso;omega)));rename_i b3 _ _ _;generalize e6:I=N at*;refine aC [(b3,_),(N,_)] [] (f253 G (.func (.func 254) #[] #[.p b3,.p N]) u.flat.length (λpre σ=>St1 b3 N (s::r) s pre σ) ht.2 u ht (λx hx pre σ e1 hp=>⟨_,#[],#[_,_],rfl,by simpa[AV.ofValue,AV.ofOne]using f254 G b3 N s r x pre (by have:=ht.2;omega) σ e1⟩) [] _ ⟨.nil,[],.inr ⟨rfl,rfl,rfl⟩,by rw[←X];rfl⟩ (by simp)).v (hH _) (nm (List.Perm.swap _ _ _)) ?_;rintro r' σ' cm d1;obtain⟨v,κ,ho,rfl⟩:=cm;rw[nil_append]at ho;rw[←X];have Z:¬b3=N:=λe=>D.1 e.symm;(repeat' (first|(with_reducible (first|refine ae (λh=>?_) λh=>?_|refine ai (λh=>?_) λh=>?_|refine ax (λh=>?_) λh=>?_)<;>(try simp only[DZ]at h))|(with_reducible refine AI (by omega) ?_)|simp only[EV,seval,V,Z,D]|simp only[EV,seval,V,Z]|(with_reducible intro I F;(try(have E:=F;simp only[EVK]at E;first|(have D:=AI E D)|(have D:=E))))|(with_reducible first|refine af ?_ ?_|refine ag ?_)|(exfalso;omega)))
    have bk:∀env,Weak G env ((b3,.cells 28 [.lst 2 (p.map Stp.cs)])::(N,.cells 25 [v])::κ) env [(N,.cells 25 [.lst 8 ((cC u s).map U.cs)])]:=λenv=>by
     rw[aa]
     rcases ho with ho|⟨ho,rfl,rfl⟩
     ·exact uF (cs:=[v]) (rest:=[]) (κ:=κ) ⟨.inr ⟨27,8,_,κ,ho,λq J=>J,rfl⟩,trivial⟩ (SubN.tail (SubN.refl _) _)
     ·rw[ho];exact Weak.trans (Weak.sub (SubN.tail (SubN.refl _) _)) (Weak.st ⟨rfl,rfl,⟨.inr rfl,trivial⟩,trivial⟩)
    clear d1 D F E
   all_goals
    refine ap (ι:=List U) r (λi rr l=>r.foldl aF (cC u s)=rr.foldl aF l/\msr l<=1048576) (λi l=>[(5,.p N),(33,.lst 2 (r.map Stp.cs)),(34,.i r.length),(35,.i i)]) (λi l=>[(N,.cells 25 [.lst 8 (l.map U.cs)])]) (cC u s) ⟨rfl,by omega⟩ (bk _) (by omega) (λi y rr l O hx hw=>?_) (λl O hn=>?_)
    ·have d0:=ei l
     clear bk;(repeat' (first|(with_reducible (first|refine ae (λh=>?_) λh=>?_|refine ai (λh=>?_) λh=>?_|refine ax (λh=>?_) λh=>?_)<;>(try simp only[DZ]at h))|(with_reducible refine AI (by omega) ?_)|simp only[EV,seval,hx.yes,hx.le0,hx.lt',hx.row,hw,hx.get,D]|simp only[EV,seval,hx.yes,hx.le0,hx.lt',hx.row,hw,hx.get]|(with_reducible intro I F;(try(have E:=F;simp only[EVK]at E;first|(have D:=AI E D)|(have D:=E))))|(with_reducible first|refine af ?_ ?_|refine ag ?_)|(exfalso;omega)));have Z:¬I=N:=E;have q2:¬N=I:=λe=>Z e.symm;generalize e5:I=b7 at*;clear D F E;obtain⟨κ,M⟩:∃κ:Store,κ=[(b7,.cells 85 [.i y.kind,.str y.label]),(N,.cells 25 [.lst 8 (l.map U.cs)])]:=⟨_,rfl⟩
     have bs:(Store.keys κ).Nodup:=by rw[M];simp[Store.keys,Z]
     refine ap (ι:=Option Nat) l (λj rl c=>∀b,c=some b->b∉Store.keys κ) (λj c=>[(5,.p N),(7,.p b7),(8,.own c 27 8 ((aF (l.take j) y).map U.cs)),(33,.lst 2 (r.map Stp.cs)),(34,.i r.length),(35,.i i),(39,.lst 8 (l.map U.cs)),(40,.i l.length),(41,.i j)]) (λj c=>κ++tokS c 27 ((aF (l.take j) y).length*8)) none (by intro b h;cases h) (Weak.of (by simp[cZ,Env.get,AVle,aT,aF]) (by rw[M];exact SubN.refl _)) (by omega) (λj z rl c bd Y bx=>?_) (λc bd d2=>?_)
     ·have al:aF (l.take (j+1)) y=aF (l.take j) y++z.kids.filter λk=>ay k y:=by rw[Y.take,iJ]
      have ah:(aF (l.take (j+1)) y).length<=1048576:=by
       have h1:=ei (aF (l.take (j+1)) y);have h2:=fX y (l.take (j+1))
       have h3:msr l=msr (l.take (j+1))+msr (l.drop (j+1)):=by rw[←gb,take_append_drop]
       omega
      have aw:z.kids.length<=1048576:=by
       have h1:=ei z.kids;have h2:=ir z.kids
       have h3:z.flat.length=1+(U.flats z.kids).length:=by rw[U.flat_eq,length_cons];omega
       have h4:msr l=msr (l.take (j+1))+msr (l.drop (j+1)):=by rw[←gb,take_append_drop]
       have h5:msr (l.take (j+1))=msr (l.take j)+z.flat.length:=by rw[Y.take,gb,cQ,kI];omega
       omega
      rw[al,length_append]at ah;rw[M];(repeat' (first|(with_reducible (first|refine ae (λh=>?_) λh=>?_|refine ai (λh=>?_) λh=>?_|refine ax (λh=>?_) λh=>?_)<;>(try simp only[DZ]at h))|(with_reducible refine AI (by omega) ?_)|simp only[EV,seval,Y.yes,Y.le0,Y.lt',Y.row,bx,Y.get,Z,q2,D]|simp only[EV,seval,Y.yes,Y.le0,Y.lt',Y.row,bx,Y.get,Z,q2]|(with_reducible intro I F;(try(have E:=F;simp only[EVK]at E;first|(have D:=AI E D)|(have D:=E))))|(with_reducible first|refine af ?_ ?_|refine ag ?_)|(exfalso;omega)));have ac:=mK l y z.kids j
      have bm:zPre l y z.kids j z.kids.length=aF (l.take (j+1)) y:=by rw[al,m8]
      refine ap (ι:=Option Nat) z.kids (λk rk c=>∀b,c=some b->b∉Store.keys κ) (λk c=>[(5,.p N),(7,.p b7),(8,.own c 27 8 ((zPre l y z.kids j k).map U.cs)),(33,.lst 2 (r.map Stp.cs)),(34,.i r.length),(35,.i i),(39,.lst 8 (l.map U.cs)),(40,.i l.length),(41,.i j),(46,.lst 8 (z.kids.map U.cs)),(47,.i z.kids.length),(48,.i k)]) (λk c=>κ++tokS c 27 ((zPre l y z.kids j k).length*8)) c bd (Weak.of (by simp[cZ,Env.get,AVle,aT,ac]) (by rw[M];simp only[ac];exact SubN.tail (SubN.refl _) _)) (Nat.lt_of_le_of_lt aw (by decide)) (λk q rk c T J an=>?_) (λc T ds=>?_)
      ·have hA:=f255 G q y;have bo:((z.kids.take k).filter λk=>ay k y).length<=k:=Nat.le_trans (length_filter_le _ _) (by rw[length_take];omega);have dl:=J.lt;have be:(aF (l.take j) y).length<=1048576:=Nat.le_trans (Nat.le_add_right _ _) ah;have bh:((z.kids.take k).filter λk=>ay k y).length<=1048576:=Nat.le_trans bo (Nat.le_trans (Nat.le_of_lt dl) aw)
       have e4:(zPre l y z.kids j k).length<=2097152:=by
        rw[pY];exact Nat.add_le_add be bh
       have dc:ay q y=true\/ay q y=false:=by
        cases ay q y
        ·exact .inr rfl
        ·exact .inl rfl
       rcases dc with hc|hc
       ·have ef:zPre l y z.kids j (k+1)=zPre l y z.kids j k++[q]:=pp J hc;rw[hc]at hA;clear cw bb ch ah aw al d0 ac bm hN bo hp aa be bh;rw[M];(repeat' (first|(with_reducible (first|refine ae (λh=>?_) λh=>?_|refine ai (λh=>?_) λh=>?_|refine ax (λh=>?_) λh=>?_)<;>(try simp only[DZ]at h))|(with_reducible first|refine AI (by omega) ?_|refine ab hA ?_)|simp only[EV,seval,J.yes,J.le0,J.lt',J.row,an,J.get,Z,q2,D]|simp only[EV,seval,J.yes,J.le0,J.lt',J.row,an,J.get,Z,q2]|(with_reducible intro I F;(try(have E:=F;simp only[EVK]at E;first|(have D:=AI E D)|(have D:=E))))|(with_reducible first|refine af ?_ ?_|refine ag ?_)|(exfalso;omega)));rename_i e3 cp _ _;refine⟨[q.cs],rfl,by simp[hJ],by simp,?_⟩;refine nf (sz:=8) (bytes:=120) (rows:=(zPre l y z.kids j k).map U.cs) (ys:=[q.cs]) (m:=(zPre l y z.kids j k).length*8) [(b7,.cells 85 [.i y.kind,.str y.label]),(N,.cells 25 [.lst 8 (l.map U.cs)])] cp F (M ▸ T) (by rw[length_map]) (M ▸ bs) (by rw[length_map];simp;omega) (λgn dd=>?_);refine ak J gn dd ?_;rw[ef,map_append,length_append];simp only[length_map,map_cons,map_nil,length_append,length_cons,length_nil];exact a0 _ _
       ·have ef:zPre l y z.kids j (k+1)=zPre l y z.kids j k:=pG J hc;rw[hc]at hA;clear cw bb ch ah aw al d0 ac bm hN bo hp aa be bh;rw[M];(repeat' (first|(with_reducible (first|refine ae (λh=>?_) λh=>?_|refine ai (λh=>?_) λh=>?_|refine ax (λh=>?_) λh=>?_)<;>(try simp only[DZ]at h))|(with_reducible first|refine AI (by omega) ?_|refine ab hA ?_)|simp only[EV,seval,J.yes,J.le0,J.lt',J.row,an,J.get,Z,q2,D]|simp only[EV,seval,J.yes,J.le0,J.lt',J.row,an,J.get,Z,q2]|(with_reducible intro I F;(try(have E:=F;simp only[EVK]at E;first|(have D:=AI E D)|(have D:=E))))|(with_reducible first|refine af ?_ ?_|refine ag ?_)|(exfalso;omega)));refine ak J c (M ▸ T) ?_;rw[ef];exact Weak.sub (SubN.tail (SubN.refl _) _)
      ·(try simp only[EV,seval,ds,bx]);refine ak Y c (M ▸ T) ?_;rw[bm,M];exact a0 _ _
     ·rw[M];(repeat' (first|(with_reducible (first|refine ae (λh=>?_) λh=>?_|refine ai (λh=>?_) λh=>?_|refine ax (λh=>?_) λh=>?_)<;>(try simp only[DZ]at h))|(with_reducible refine AI (by omega) ?_)|simp only[EV,seval,d2,hw,Z,q2,D]|simp only[EV,seval,d2,hw,Z,q2]|(with_reducible intro I F;(try(have E:=F;simp only[EVK]at E;first|(have D:=AI E D)|(have D:=E))))|(with_reducible first|refine af ?_ ?_|refine ag ?_)|(exfalso;omega)));refine ak hx (aF l y) ⟨O.1,Nat.le_trans (fX y l) O.2⟩ ?_;rw[take_length];refine Weak.trans (Weak.sub (σ':=[(N,.cells 25 [.own c 27 8 ((aF l y).map U.cs)])]) (SubN.tail (SubN.cons (SubN.nil _) _) _)) (Weak.st ⟨rfl,rfl,⟨.inr ⟨rfl,rfl⟩,trivial⟩,trivial⟩)
    ·(repeat' (first|(with_reducible (first|refine ae (λh=>?_) λh=>?_|refine ai (λh=>?_) λh=>?_|refine ax (λh=>?_) λh=>?_)<;>(try simp only[DZ]at h))|(with_reducible refine AI (by omega) ?_)|simp only[EV,seval,hn,D]|simp only[EV,seval,hn]|(with_reducible intro I F;(try(have E:=F;simp only[EVK]at E;first|(have D:=AI E D)|(have D:=E))))|(with_reducible first|refine af ?_ ?_|refine ag ?_)|(exfalso;omega)))
     exact d3 _ _ (Or.inl (Or.inl (by rw[O.1];rfl)))
def f61 (u:U) (p:List Stp) (ht:u.Tame) (N:u.flat.length<=1024) (hp:p.length<1000000):Pure G Tryz.prog 61 [.agg u.cs,.lst 2 (p.map Stp.cs)] (.lst 3 (((ek u p).map U.id).map Idd.cs)):=by
 have X:=f134 G u p ht N hp;have O:=jZ u p;have M:u.flat.length*u.flat.length<=1048576:=Nat.mul_le_mul N N;obtain⟨l,T⟩:∃l,ek u p=l:=⟨_,rfl⟩;rw[T]at X O ⊢;refine Pure.w c61 λR hR=>?_;unfold s61 r61;have aa:l.length<=1048576:=Nat.le_trans O M;clear O M N;(repeat' (first|(with_reducible (first|refine ae (λh=>?_) λh=>?_|refine ai (λh=>?_) λh=>?_|refine ax (λh=>?_) λh=>?_)<;>(try simp only[DZ]at h))|(with_reducible first|refine AI (by omega) ?_|refine ab X ?_)|simp only[EV,seval,D]|simp only[EV,seval]|(with_reducible intro J F;(try(have E:=F;simp only[EVK]at E;first|(have D:=AI E D)|(have D:=E))))|(with_reducible first|refine af ?_ ?_|refine ag ?_)|(exfalso;omega)));refine ap (ι:=Option Nat) l (λi r c=>True) (λi c=>[(5,.own c 23 3 ((l.take i).map λx=>x.id.cs)),(10,.lst 8 (l.map U.cs)),(11,.i l.length),(12,.i i)]) (λi c=>tokS c 23 (i*3)) none trivial (Weak.of (by simp[cZ,Env.get,AVle,aT]) (SubN.refl _)) (by omega) (λi x r c V I Z=>?_) (λc V Y=>?_)
 ·have hi:=I.lt;(repeat' (first|(with_reducible (first|refine ae (λh=>?_) λh=>?_|refine ai (λh=>?_) λh=>?_|refine ax (λh=>?_) λh=>?_)<;>(try simp only[DZ]at h))|(with_reducible refine AI (by omega) ?_)|simp only[EV,seval,I.yes,I.le0,I.lt',I.row,Z,I.get,D]|simp only[EV,seval,I.yes,I.le0,I.lt',I.row,Z,I.get]|(with_reducible intro J F;(try(have E:=F;simp only[EVK]at E;first|(have D:=AI E D)|(have D:=E))))|(with_reducible first|refine af ?_ ?_|refine ag ?_)|(exfalso;omega)));refine dC (n:=i) (m':=(i+1)*3) (by first|exact bL|exact bP (by assumption)|exact mC (by assumption) (by assumption)) (by rw[length_map,length_take];omega) rfl rfl rfl (by assumption) (by omega) (λgn=>?_);refine ak I gn trivial ?_;simp only[I.take,map_append,map_cons,map_nil];exact a0 _ _
 ·(repeat' (first|(with_reducible (first|refine ae (λh=>?_) λh=>?_|refine ai (λh=>?_) λh=>?_|refine ax (λh=>?_) λh=>?_)<;>(try simp only[DZ]at h))|(with_reducible refine AI (by omega) ?_)|simp only[EV,seval,Y,D]|simp only[EV,seval,Y]|(with_reducible intro J F;(try(have E:=F;simp only[EVK]at E;first|(have D:=AI E D)|(have D:=E))))|(with_reducible first|refine af ?_ ?_|refine ag ?_)|(exfalso;omega)));exact hR _ _ (Or.inl (Or.inr ⟨rfl,by rw[take_length,map_map];rfl⟩))
def f26 (u:U) (p:List Stp) (T:u.Tame) (N:u.flat.length<=1024) (O:p.length<1000000):Pure G Tryz.prog 26 [.agg u.cs,.lst 2 (p.map Stp.cs)] (gQ u p):=by
 have J:=f61 G u p T N O;refine Pure.w c26 λR I=>?_;unfold s26 r26;unfold gQ one at I;have V:(ek u p).length<=1048576:=Nat.le_trans (jZ u p) (Nat.mul_le_mul N N);generalize ek u p=l at*
 rcases l with _|⟨x,_|⟨y,l⟩⟩
 ·simp only[map_nil]at J I;(repeat' (first|(with_reducible (first|refine ae (λh=>?_) λh=>?_|refine ai (λh=>?_) λh=>?_|refine ax (λh=>?_) λh=>?_)<;>(try simp only[DZ]at h))|(with_reducible first|refine AI (by omega) ?_|refine ab J ?_)|simp only[EV,seval,D]|simp only[EV,seval]|(with_reducible intro M F;(try(have E:=F;simp only[EVK]at E;first|(have D:=AI E D)|(have D:=E))))|(with_reducible first|refine af ?_ ?_|refine ag ?_)|(exfalso;omega)))
  all_goals exact I _ _ (Or.inl (Or.inl rfl))
 ·simp only[map_cons,map_nil,Idd.cs]at J I;(repeat' (first|(with_reducible (first|refine ae (λh=>?_) λh=>?_|refine ai (λh=>?_) λh=>?_|refine ax (λh=>?_) λh=>?_)<;>(try simp only[DZ]at h))|(with_reducible first|refine AI (by omega) ?_|refine ab J ?_)|simp only[EV,seval,D]|simp only[EV,seval]|(with_reducible intro M F;(try(have E:=F;simp only[EVK]at E;first|(have D:=AI E D)|(have D:=E))))|(with_reducible first|refine af ?_ ?_|refine ag ?_)|(exfalso;omega)))
  all_goals first|exact I _ _ (Or.inl (Or.inl rfl))|(exfalso;omega)
 ·simp only[map_cons,Idd.cs]at J I;(repeat' (first|(with_reducible (first|refine ae (λh=>?_) λh=>?_|refine ai (λh=>?_) λh=>?_|refine ax (λh=>?_) λh=>?_)<;>(try simp only[DZ]at h))|(with_reducible first|refine AI (by omega) ?_|refine ab J ?_)|simp only[EV,seval,D]|simp only[EV,seval]|(with_reducible intro M F;(try(have E:=F;simp only[EVK]at E;first|(have D:=AI E D)|(have D:=E))))|(with_reducible first|refine af ?_ ?_|refine ag ?_)|(exfalso;omega)))
  all_goals first|exact I _ _ (Or.inl (Or.inl rfl))|(exfalso;omega)
end
def oL {W:List (List UInt8)} {k:Nat} {y x:List UInt8} {r:List (List UInt8)} (D:W[k]? =some y):(decide ((W.drop k).take (x::r).length=x::r))=(decide (y=x)&&decide ((W.drop (k+1)).take r.length=r)):=by
 have E:k<W.length:=by
  rw[List.getElem?_eq_some_iff]at D;exact D.1
 have e:W.drop k=y::W.drop (k+1):=by
  rw[drop_eq_getElem_cons E];rw[getElem?_eq_getElem E]at D
  injection D with D
  rw[D]
 rw[e,length_cons,take_succ_cons];rw[Bool.eq_iff_iff];simp
section
variable (G:Glob)
def f263 (w:List Wd) (k:Nat) (row:List (List UInt8)) (hw:w.length<1000000) (hk:k<=1000000) (hr:row.length<1000000) (aa:1<=row.length):Pure G Tryz.prog 263 [.lst 4 (w.map Wd.cs),.i k,.lst 1 (row.map srow)] (.bool (decide (((w.map Wd.text).drop k).take row.length=row))):=by
 have w0:IntKind.i64.wrap ((k:Int)+(row.length:Int))=(k:Int)+row.length:=av (by omega) (by omega);refine Pure.w c263 λR F=>?_;unfold s263 r263;by_cases Z:w.length<k+row.length
 ·have I:decide ((w.length:Int)<(k:Int)+row.length)=true:=decide_eq_true (by omega)
  have T:decide (((w.map Wd.text).drop k).take row.length=row)=false:=decide_eq_false λe=>by
   have:=congrArg List.length e;rw[length_take,length_drop,length_map]at this;omega
  rw[T]at F;(repeat' (simp only[EV,seval,w0,I]));exact RET.eq F rfl
 ·have I:decide ((w.length:Int)<(k:Int)+row.length)=false:=decide_eq_false (by omega);(repeat' (simp only[EV,seval,w0,I]));refine ap row (λi r (c:Unit)=>decide (((w.map Wd.text).drop k).take row.length=row)=decide (((w.map Wd.text).drop (k+i)).take r.length=r)) (λi c=>[(0,.lst 4 (w.map Wd.cs)),(1,.i k),(2,.lst 1 (row.map srow)),(7,.i i)]) (λ_ _=>[]) () rfl (a0 _ _) (by omega) (λi x r c D E N=>?_) (λc D hn=>?_)
  ·have hi:=E.lt
   have M:k+i<w.length:=by omega
   have w1:IntKind.i64.wrap ((k:Int)+(i:Int))=((k+i:Nat):Int):=by rw[av (by omega) (by omega)];omega
   obtain⟨y,O⟩:∃y,w[k+i]? =some y:=⟨w[k+i],getElem?_eq_getElem M⟩
   have Y:(w.map Wd.cs).getD (k+i) []=y.cs:=by simp only[List.getD,getElem?_map,O,Option.map_some,Option.getD_some]
   have X:((k+i:Nat):Int)<(w.length:Int):=by omega
   have J:(0:Int)<=((k+i:Nat):Int):=by omega
   rw[oL (y:=y.text) (by rw[getElem?_map,O];rfl)]at D;(repeat' (first|(with_reducible (refine ae (λh=>?_) λh=>?_)<;>(try simp only[DZ]at h))|simp only[EV,seval,E.yes,E.le0,E.lt',E.row,N,E.get,w1,Y,X,J]|fail))
   ·rw[decide_eq_false (p:=y.text=x) h,Bool.false_and]at D;exact RET.eq F (by rw[D])
   ·have V:y.text=x:=Classical.byContradiction h;rw[decide_eq_true V,Bool.true_and,Nat.add_assoc]at D;exact ak E () D (a0 _ _)
  ·(repeat' (simp only[EV,seval,hn]));exact RET.eq F (by rw[D];simp)
def f149 (w:List Wd) (row:List (List UInt8)) (hw:w.length<1000000) (hr:row.length<1000000) (T:row≠[]):Pure G Tryz.prog 149 [.lst 4 (w.map Wd.cs),.lst 1 (row.map srow)] (.lst 1 ((occs w row).map λn:Nat=>[AV.int .i64 (n:Int)])):=by
 have N:1<=row.length:=by cases row<;>simp_all
 refine Pure.w c149 λR hR=>?_;unfold s149 r149;(repeat' (first|simp only[EV,seval]|(with_reducible intro I D;(try(have E:=D;simp only[EVK]at E;(have O:=E))))|(refine⟨[],rfl,(by simp),rfl,?_⟩)|fail));refine i8 (ι:=Nat×List Nat×Option Nat) (λp=>p.1<=w.length+row.length/\p.2.1.length<=p.1/\occs w row=p.2.1++occL row 0 p.1 ((w.map Wd.text).drop p.1)) (λp=>w.length+row.length+1-p.1) (λp=>[(0,.lst 4 (w.map Wd.cs)),(1,.lst 1 (row.map srow)),(5,.own p.2.2 3 1 (p.2.1.map λn:Nat=>[AV.int .i64 (n:Int)])),(6,.i p.1)]) (λp=>tokS p.2.2 3 (p.2.1.length*1)) (0,[],some I) ⟨by omega,by simp,by simp[occs]⟩ (a0 _ _) ?_;rintro⟨i,l,c⟩ ⟨Z,h2,F⟩;simp only at Z h2 F ⊢;by_cases hi:i<w.length
 ·have J:decide ((i:Int)<(w.length:Int))=true:=decide_eq_true (by omega);have M:=f263 G w i row hw (by omega) hr N;have V:IntKind.i64.wrap ((i:Int)+1)=((i+1:Nat):Int):=jm (by omega)
  have w2:IntKind.i64.wrap ((i:Int)+(row.length:Int))=((i+row.length:Nat):Int):=by rw[av (by omega) (by omega)];omega
  rcases Classical.em (((w.map Wd.text).drop i).take row.length=row)with hm|hm
  ·rw[decide_eq_true hm]at M;rw[pw T hm,drop_drop]at F;(repeat' (first|(with_reducible refine ab M ?_)|simp only[EV,seval,J,V,w2]|(with_reducible intro I D;(try(have E:=D;simp only[EVK]at E;(have O:=E))))|(refine⟨[[AV.int .i64 (i:Int)]],rfl,(by simp),(by simp),?_⟩)|(refine cH (by((simp only[length_map]<;>exact bP (by assumption)))) rfl rfl (by simp<;>omega) (λY=>?_))|fail));refine⟨(i+row.length,l++[i],Y),⟨by simp only;omega,by simp only[length_append,length_cons,length_nil];omega,by simp only[append_assoc,cons_append,nil_append];exact F⟩,by simp only;omega,?_⟩;simp only[map_append,map_cons,map_nil,length_append,length_map,length_cons,length_nil];exact a0 _ _
  ·rw[decide_eq_false hm]at M;rw[nw hm,drop_drop]at F;(repeat' (first|(with_reducible refine ab M ?_)|simp only[EV,seval,J,V,w2]|fail));exact⟨(i+1,l,c),⟨by simp only;omega,by simp only;omega,F⟩,by simp only;omega,a0 _ _⟩
 ·have J:decide ((i:Int)<(w.length:Int))=false:=decide_eq_false (by omega);have X:(w.map Wd.text).drop i=[]:=drop_eq_nil_of_le (by simp;omega);rw[X,occL,append_nil]at F;(repeat' (simp only[EV,seval,J]));exact hR _ _ (Or.inl (Or.inr ⟨rfl,by rw[F]⟩))
end
end Go.Av
