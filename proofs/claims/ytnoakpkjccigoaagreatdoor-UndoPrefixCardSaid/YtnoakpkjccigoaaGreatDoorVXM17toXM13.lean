/-
  ENACT, M17: the units that an address means, by the program.
-/
import Derived.Test.YtnoakpkjccigoaaGreatDoorVXM2toXOpE
import Derived.Test.YtnoakpkjccigoaaGreatDoorVXAv34toXM15
namespace Go.Av
open Go Go.RowKit Go.Proofs List
set_option linter.unusedSimpArgs false
set_option linter.unusedVariables false
section
variable (G:Glob)
theorem f229 (f:Value) (N:Nat) (St:List U->Store->Prop) (hN:N<1000000):
  ∀(u:U),u.Tame->(∀x∈u.flat,∀pre σ,St pre σ->pre.length<N->cd G Tryz.prog f [.agg x.cs] σ (λr σ'=>St (pre++[x]) σ'))->
   ∀pre σ,St pre σ->pre.length+u.flat.length<=N->ag G Tryz.prog 229 [.agg u.cs,.sc f] σ (λr σ'=>St (pre++u.flat) σ'):=by
 refine U.ind λu ih ht hf pre σ X an=>?_
 have al:=ht.kids
 have J:=u.flat_eq
 have ah:u.flat.length=1+(U.flats u.kids).length:=by rw[J,length_cons];omega
 refine ag.w c229 ?_
 unfold s229 r229
 (repeat' (simp only[EVz,seval,↓reduceIte,EV6,EV7]))
 refine aZ σ [] (hf u u.flat_self pre σ X (by omega)) (ax.rfl' _) (by simpa using SubN.refl _) ?_
 rintro r σ' F
 rw[append_nil]
 (repeat' (first|simp only[EVz,seval,↓reduceIte,EV6,EV7,D.yes,D.le0,D.lt',D.get,D.row,hw]|simp only[EVz,seval,↓reduceIte,EV6,EV7,hn]|simp only[EVz,seval,↓reduceIte,EV6,EV7]|(with_reducible intro T I;(try(have M:=I;simp only[EVK]at M;(have aw:=M))))|(refine ay (ι:=Store×List U) u.kids (λi r c=>St c.2 c.1/\pre++u.flat=c.2++U.flats r/\c.2.length+(U.flats r).length<=N) (λi c=>[(1,.sc f),(10,.lst 8 (u.kids.map U.cs)),(11,.int .i64 u.kids.length),(12,.int .i64 i)]) (λi c=>c.1) (σ',pre++[u]) ⟨F,by rw[J];simp,by simp;omega⟩ (Weak.rfl' _ _) (by omega) (λi x r c E D hw=>?_) (λc E hn=>?_))))
 ·obtain⟨Y,O,Z⟩:=E
  rw[pk]at O Z
  rw[length_append]at Z
  refine aZ c.1 [(T,.cells 27 x.cs)] (ih x D.mem (ht.kid D.mem) (λy hy=>hf y (qq D.mem hy)) c.2 c.1 Y (by omega)).v (ax.rfl' _) SubN.comm1 ?_
  rintro r' ac V
  (repeat' (simp only[EVz,seval,↓reduceIte,EV6,EV7,hw]))
  exact ap D (ac,c.2++x.flat) ⟨V,by rw[O,append_assoc],by simp;omega⟩ (Weak.sub SubN.left)
 ·obtain⟨Y,O,Z⟩:=E
  exact RET.mk (SubN.refl _) (by rw[O,pp,append_nil];exact Y)
def St1 (D E:Nat) (p:List Stp) (s:Stp) (pre:List U) (σ:Store):Prop:=∃v κ,(bD 27 8 ((pre.filter λx=>aL x s).map U.cs) v κ\/(pre.filter λx=>aL x s)=[]/\v= .nil/\κ=[])/\σ=[(D,.cells 46 [.lst 2 (p.map Stp.cs)]),(E,.cells 25 [v])]++κ
theorem f230 (b3 b5:Nat) (s:Stp) (rs:List Stp) (x:U) (pre:List U) (bo:pre.length<1000000) (σ:Store) (hS:St1 b3 b5 (s::rs) s pre σ):
  ag G Tryz.prog 230 [.agg x.cs,.sc (.pointer (some ⟨b3,0,none⟩)),.sc (.pointer (some ⟨b5,0,none⟩))] σ (λr σ'=>St1 b3 b5 (s::rs) s (pre++[x]) σ'):=by
 obtain⟨v,κ,ho,rfl⟩:=hS
 have hC:=f231 G x s
 have bb:(pre.filter λx=>aL x s).length<=pre.length:=length_filter_le _ _
 obtain⟨L,hL⟩:∃L,pre.filter (λx=>aL x s)=L:=⟨_,rfl⟩
 rw[hL]at ho bb
 refine ag.wn c230 λT=>?_
 unfold s230 r230
 have N:(pre++[x]).filter (λx=>aL x s)=if aL x s=true then L++[x]else L:=by
  rw[filter_append,hL]
  cases hq:aL x s<;>simp[hq]
 rcases ho with⟨ah,cap,rfl,⟨h0,rfl,rfl⟩|⟨b,pad,rfl,rfl,h1,h2,h3,h4⟩⟩|⟨h0,rfl,rfl⟩
 ·have bl:L=[]:=by simpa using h0
  subst bl
  have E:¬b5=b3:=by simp[Store.keys]at T;exact λe=>T e.symm
  have F:¬b3=b5:=λe=>E e.symm
  cases hc:aL x s with
  |false=>
   rw[hc]at hC N
   (repeat' (first|(with_reducible first|refine AI (by omega) ?_|refine aa hC ?_)|simp only[EVz,seval,↓reduceIte,EV6,EV7,E,F,map_cons,getD_cons_zero]))
   all_goals exact RET.mk' (SubN.refl _) ⟨_,[],.inl (by rw[N];exact⟨ah,0,rfl,.inl ⟨rfl,rfl,rfl⟩⟩),rfl⟩
  |true=>
   rw[hc]at hC N
   have bn:rF (.slice ah 0 0):=by
    cases ah with
    |none=>exact .inl rfl
    |some a=>exact .inr ⟨a,rfl⟩
   obtain⟨O,ac⟩:∃O:List AV,O=[.int .i64 0,.int .i64 0,.int .i64 0,.int .i64 0,.str [],.nil,.nil,.nil]:=⟨_,rfl⟩
   have I:O.length=8:=by rw[ac];rfl
   have an:∀D:List AV,([O].flatten++D).drop 8=D:=λD=>by rw[←I];simp
   have bd:∀D:List AV,8<=([O].flatten++D).length:=λD=>by rw[length_append];simp[I]
   (repeat' (first|(with_reducible first|refine AI (by omega) ?_|refine aa hC ?_)|simp only[EVz,seval,↓reduceIte,EV6,EV7,E,F,map_cons,getD_cons_zero,dx,an,J]|simp only[EVz,seval,↓reduceIte,EV6,EV7,E,F,map_cons,getD_cons_zero,dx,an]|(with_reducible intro be Y;(try(have Z:=Y;simp only[EVK]at Z;(have J:=Z))))|(with_reducible refine ae ?_ ?_)|(refine⟨[O],rfl,(by simp[I]),(by simp[ac]),?_⟩)|(refine bY (e:=27) (e':=27) (sz:=8) (bytes:=120) (rows:=[]) (ys:=[O]) (g:=none) (xv:=.sc (.slice ah 0 0)) (by kernel_rfl) (by kernel_rfl) (by kernel_rfl) (by kernel_rfl) (by decide) (by decide) rfl (.inl ⟨rfl,rfl,.inr ⟨_,rfl,bn⟩⟩) ⟨rfl,rfl⟩ (by simp) (λ_ h=>by cases h) (λb' M D hb g1 g2 g3 g4=>?_))|((simp only[EVK,dx]at hb;have J:=AI hb J))|(refine⟨bd _,_,_,Weak.rfl' _ _,?_⟩)))
   all_goals
    refine RET.mk' (σ':=[(b3,AObj.cells 46 [.lst 2 ((s::rs).map Stp.cs)]),(b5,AObj.cells 25 [.sc (.slice (some ⟨b',0,none⟩) 1 M)])]++[(b',AObj.cells 27 (x.cs++D))]) (SubN.trans (SubN.perm (perm_append_comm (l₁:=[_,_]) (l₂:=[_]))) (SubN.cons (SubN.tail (SubN.refl _) _) _)) ⟨_,_,.inl ?_,rfl⟩
    have:=bD.mk (e:=27) (sz:=8) (b:=b') (rows:=[x.cs]) (pad:=D) (n:=1) (cap:=M) rfl g1 g2 (by simp[U.cs_len]) (by rw[←g4];simp[U.cs_len,I])
    rw[N]
    simpa using this
 ·have E:¬b5=b3:=by simp[Store.keys]at T;exact λe=>T.1.1 e.symm
  have F:¬b3=b5:=λe=>E e.symm
  have V:¬b3=b:=by simp[Store.keys]at T;exact T.1.2
  have X:¬b5=b:=by simp[Store.keys]at T;exact T.2
  have aw:¬b=b3:=λe=>V e.symm
  have ba:¬b=b5:=λe=>X e.symm
  rw[length_map]at h1
  cases hc:aL x s with
  |false=>
   rw[hc]at hC N
   (repeat' (first|(with_reducible first|refine AI (by omega) ?_|refine aa hC ?_)|simp only[EVz,seval,↓reduceIte,EV6,EV7,E,F,V,X,aw,ba,map_cons,getD_cons_zero,length_map]))
   all_goals exact RET.mk' (SubN.refl _) ⟨_,[(b,_)],.inl (by rw[N];exact bD.mk (by simp) (by rw[length_map];exact h1) h2 h3 h4),rfl⟩
  |true=>
   rw[hc]at hC N
   obtain⟨O,ac⟩:∃O:List AV,O=[.int .i64 0,.int .i64 0,.int .i64 0,.int .i64 0,.str [],.nil,.nil,.nil]:=⟨_,rfl⟩
   have I:O.length=8:=by rw[ac];rfl
   obtain⟨R0,al⟩:∃R0,L.map U.cs=R0:=⟨_,rfl⟩
   have bm:R0.length=L.length:=by rw[←al,length_map]
   rw[al]at h3 h4
   have bb:=au R0 h3
   have bk:∀D:List AV,aH ((R0++[O]).flatten++D) (0+R0.length*8) x.cs=(R0++[x.cs]).flatten++D:=λD=>by
    rw[flatten_append,flatten_append,append_assoc,append_assoc]
    simpa using pE (A:=R0.flatten) (B:=O) (B':=x.cs) (C:=D) (o:=R0.length*8) (by rw[bb]) (by rw[U.cs_len,I])
   have bd:∀D:List AV,0+R0.length*8+8<=((R0++[O]).flatten++D).length:=λD=>by rw[length_append,flatten_append,length_append,bb];simp[I]
   have bh:(R0++[O]).length=R0.length+1:=by rw[length_append];rfl
   (repeat' (first|(with_reducible first|refine AI (by omega) ?_|refine aa hC ?_)|simp only[EVz,seval,↓reduceIte,EV6,EV7,E,F,V,X,aw,ba,map_cons,getD_cons_zero,length_map,jV,lE,bk,bh,al,J]|simp only[EVz,seval,↓reduceIte,EV6,EV7,E,F,V,X,aw,ba,map_cons,getD_cons_zero,length_map,jV,lE,bk,bh,al]|(with_reducible intro be Y;(try(have Z:=Y;simp only[EVK]at Z;(have J:=Z))))|(with_reducible first|refine ae ?_ ?_|refine af ?_)|(refine⟨[O],rfl,(by simp[I]),(by simp[ac]),?_⟩)|(refine bY (e:=27) (e':=27) (sz:=8) (bytes:=120) (rows:=R0) (ys:=[O]) (g:=some b) (xv:=.sc (.slice (some ⟨b,0,none⟩) R0.length cap)) (by kernel_rfl) (by kernel_rfl) (by kernel_rfl) (by kernel_rfl) (by decide) (by decide) rfl (.inr ⟨b,cap,pad,rfl,rfl,(by simp[Store.get,J,V,X]),h3,h4,by omega,h2⟩) ⟨rfl,rfl⟩ (by rw[bm];simp;omega) (λ_ h=>by cases h) (λb' M D hb g1 g2 g3 g4=>?_))|((simp[Store.keys,Store.erase,J,V,X]at hb;have J:=AI hb J))))
   all_goals
    refine RET.mk' (σ':=[(b3,AObj.cells 46 [.lst 2 ((s::rs).map Stp.cs)]),(b5,AObj.cells 25 [.sc (.slice (some ⟨b',0,none⟩) (R0.length+1) M)])]++[(b',AObj.cells 27 ((R0++[x.cs]).flatten++D))]) (SubN.trans (SubN.perm (perm_append_comm (l₁:=[_,_]) (l₂:=[_]))) (SubN.cons (SubN.tail (SubN.refl _) _) _)) ⟨_,_,.inl ?_,rfl⟩
    have bi:∀r∈R0++[x.cs],r.length=8:=λr hr=>by
     rcases mem_append.1 hr with hr|hr
     ·exact h3 r hr
     ·simp only[mem_singleton]at hr;subst hr;exact U.cs_len x
    have:=bD.mk (e:=27) (sz:=8) (b:=b') (rows:=R0++[x.cs]) (pad:=D) (n:=R0.length+1) (cap:=M) (by simp) (by simpa using g1) g2 bi (by rw[←g4];simp[U.cs_len,I])
    rw[N]
    simpa[al]using this
 ·subst h0
  have E:¬b5=b3:=by simp[Store.keys]at T;exact λe=>T e.symm
  have F:¬b3=b5:=λe=>E e.symm
  cases hc:aL x s with
  |false=>
   rw[hc]at hC N
   (repeat' (first|(with_reducible first|refine AI (by omega) ?_|refine aa hC ?_)|simp only[EVz,seval,↓reduceIte,EV6,EV7,E,F,map_cons,getD_cons_zero]))
   all_goals exact RET.mk' (SubN.refl _) ⟨_,[],.inr ⟨by rw[N];rfl,rfl,rfl⟩,rfl⟩
  |true=>
   rw[hc]at hC N
   obtain⟨O,ac⟩:∃O:List AV,O=[.int .i64 0,.int .i64 0,.int .i64 0,.int .i64 0,.str [],.nil,.nil,.nil]:=⟨_,rfl⟩
   have I:O.length=8:=by rw[ac];rfl
   have an:∀D:List AV,([O].flatten++D).drop 8=D:=λD=>by rw[←I];simp
   have bd:∀D:List AV,8<=([O].flatten++D).length:=λD=>by rw[length_append];simp[I]
   (repeat' (first|(with_reducible first|refine AI (by omega) ?_|refine aa hC ?_)|simp only[EVz,seval,↓reduceIte,EV6,EV7,E,F,map_cons,getD_cons_zero,dx,an,J]|simp only[EVz,seval,↓reduceIte,EV6,EV7,E,F,map_cons,getD_cons_zero,dx,an]|(with_reducible intro be Y;(try(have Z:=Y;simp only[EVK]at Z;(have J:=Z))))|(with_reducible refine ae ?_ ?_)|(refine⟨[O],rfl,(by simp[I]),(by simp[ac]),?_⟩)|(refine bY (e:=27) (e':=27) (sz:=8) (bytes:=120) (rows:=[]) (ys:=[O]) (g:=none) (xv:=.nil) (by kernel_rfl) (by kernel_rfl) (by kernel_rfl) (by kernel_rfl) (by decide) (by decide) rfl (.inl ⟨rfl,rfl,.inl rfl⟩) ⟨rfl,rfl⟩ (by simp) (λ_ h=>by cases h) (λb' M D hb g1 g2 g3 g4=>?_))|((simp only[EVK,dx]at hb;have J:=AI hb J))|(refine⟨bd _,_,_,Weak.rfl' _ _,?_⟩)))
   all_goals
    refine RET.mk' (σ':=[(b3,AObj.cells 46 [.lst 2 ((s::rs).map Stp.cs)]),(b5,AObj.cells 25 [.sc (.slice (some ⟨b',0,none⟩) 1 M)])]++[(b',AObj.cells 27 (x.cs++D))]) (SubN.trans (SubN.perm (perm_append_comm (l₁:=[_,_]) (l₂:=[_]))) (SubN.cons (SubN.tail (SubN.refl _) _) _)) ⟨_,_,.inl ?_,rfl⟩
    have:=bD.mk (e:=27) (sz:=8) (b:=b') (rows:=[x.cs]) (pad:=D) (n:=1) (cap:=M) rfl g1 g2 (by simp[U.cs_len]) (by rw[←g4];simp[U.cs_len,I])
    rw[N]
    simpa using this
end
section
variable (G:Glob)
set_option maxHeartbeats 2000000 in
theorem f143 (u:U) (p:List Stp) (ht:u.Tame) (hN:u.flat.length<=1024) (hp:p.length<1000000):Pure G Tryz.prog 143 [.agg u.cs,.lst 2 (p.map Stp.cs)] (.lst 8 ((fY u p).map U.cs)):=by
 have hM:=f100 G p hp
 refine Pure.w c143 λR hR=>?_
 unfold s143 r143
 unfold fY at hR
 cases bp:dU p with
 |false=>
  rw[bp,if_pos rfl]at hR
  rw[bp]at hM
  (repeat' (first|(with_reducible (first|refine ab (λh=>?_) (λh=>?_)|refine ai (λh=>?_) (λh=>?_)|refine aj (λh=>?_) (λh=>?_))<;>(try simp only[DZ]at h))|(with_reducible first|refine AI (by omega) ?_|refine aa hM ?_)|simp only[EVz,seval,↓reduceIte,EV6,EV7,D]|simp only[EVz,seval,↓reduceIte,EV6,EV7]|(with_reducible intro I F;(try(have E:=F;simp only[EVK]at E;first|(have D:=AI E D)|(have D:=E))))|(with_reducible first|refine ae ?_ ?_|refine af ?_)|(exfalso;omega)))
  exact hR _ _ (Or.inl (Or.inr rfl))
 |true=>
  rw[bp]at hM hR
  simp only[Bool.true_eq_false,if_false]at hR
  by_cases h0:p=[]
  ·subst h0
   simp only[map_nil]at hM ⊢
   (repeat' (first|(with_reducible (first|refine ab (λh=>?_) (λh=>?_)|refine ai (λh=>?_) (λh=>?_)|refine aj (λh=>?_) (λh=>?_))<;>(try simp only[DZ]at h))|(with_reducible first|refine AI (by omega) ?_|refine aa hM ?_)|simp only[EVz,seval,↓reduceIte,EV6,EV7,D]|simp only[EVz,seval,↓reduceIte,EV6,EV7]|(with_reducible intro I F;(try(have E:=F;simp only[EVK]at E;first|(have D:=AI E D)|(have D:=E))))|(with_reducible first|refine ae ?_ ?_|refine af ?_)|(refine⟨[u.cs],rfl,(by simp[U.cs_len]),(by simp),?_⟩)|(exfalso;omega)))
   exact hR _ _ (Or.inl (Or.inr ⟨rfl,rfl⟩))
  ·obtain⟨s,r,X⟩:∃s r,p=s::r:=by cases p<;>simp_all
   have cw:∀x σ,AVle x (.lst 8 ((r.foldl aK (dV u s)).map U.cs))->RET x σ R:=by
    rw[X]at hR
    exact hR
   clear hR
   have dc:p.length=r.length+1:=by rw[X];simp
   have al:(p.map Stp.cs).getD 0 []=s.cs:=by rw[X];rfl
   have e0:decide ((p.length:Int)=0)=false:=decide_eq_false (by omega)
   have V:List.drop 1 (List.take p.length (p.map Stp.cs))=r.map Stp.cs:=by rw[take_of_length_le (by simp),X];rfl
   have e2:(r.map Stp.cs).length=r.length:=by simp
   have hB:=f189 G s.kind s.label
   have bs:u.flat.length*u.flat.length<=1048576:=Nat.mul_le_mul hN hN
   have bx:=j6 u s
   have bd:=gg (dV u s)
   cases hb:mF s
   case' true=>
    have bm:(decide (s.kind=0)&&decide (s.label=[]))=true:=hb
    rw[bm]at hB
    have ac:dV u s=[u]:=by unfold dV;rw[hb];rfl
    (repeat' (first|(with_reducible (first|refine ab (λh=>?_) (λh=>?_)|refine ai (λh=>?_) (λh=>?_)|refine aj (λh=>?_) (λh=>?_))<;>(try simp only[DZ]at h))|(with_reducible first|refine AI (by omega) ?_|refine aa hM ?_|refine aa hB ?_)|simp only[EVz,seval,↓reduceIte,EV6,EV7,al,e0,V,D]|simp only[EVz,seval,↓reduceIte,EV6,EV7,al,e0,V]|(with_reducible intro I F;(try(have E:=F;simp only[EVK]at E;first|(have D:=AI E D)|(have D:=E))))|(with_reducible first|refine ae ?_ ?_|refine af ?_)|(refine⟨[u.cs],rfl,(by simp[U.cs_len]),(by simp),?_⟩)|(exfalso;omega)))
    rename_i b3 _ _ _ N _ _ _
    have bk:∀env,Weak G env [(I,.tok 27 8),(N,.cells 25 [.own (some I) 27 8 [u.cs]]),(b3,.cells 46 [.lst 2 (p.map Stp.cs)])] env [(N,.cells 25 [.lst 8 ((dV u s).map U.cs)])]:=λenv=>
     Weak.trans (Weak.sub (SubN.tail (SubN.cons (SubN.nil _) _) _)) (Weak.st ⟨rfl,rfl,⟨.inr ⟨rfl,by rw[ac];rfl⟩,trivial⟩,trivial⟩)
    clear F E D
   case' false=>
    have bm:(decide (s.kind=0)&&decide (s.label=[]))=false:=hb
    rw[bm]at hB
    have ac:dV u s=u.flat.filter λx=>aL x s:=by unfold dV;rw[hb];rfl
    (repeat' (first|(with_reducible (first|refine ab (λh=>?_) (λh=>?_)|refine ai (λh=>?_) (λh=>?_)|refine aj (λh=>?_) (λh=>?_))<;>(try simp only[DZ]at h))|(with_reducible first|refine AI (by omega) ?_|refine aa hM ?_|refine aa hB ?_)|simp only[EVz,seval,↓reduceIte,EV6,EV7,al,e0,V,D]|simp only[EVz,seval,↓reduceIte,EV6,EV7,al,e0,V]|(with_reducible intro I F;(try(have E:=F;simp only[EVK]at E;first|(have D:=AI E D)|(have D:=E))))|(with_reducible first|refine ae ?_ ?_|refine af ?_)|(exfalso;omega)))
    rename_i b3 _ _ _
    generalize e1:I=N at*
    refine av [(b3,_),(N,_)] [] (f229 G (.func (.func 230) #[] #[.pointer (some ⟨b3,0,none⟩),.pointer (some ⟨N,0,none⟩)]) u.flat.length (λpre σ=>St1 b3 N (s::r) s pre σ) ht.2 u ht (λx hx pre σ d4 hp=>⟨_,#[],#[_,_],rfl,by simpa[AV.ofValue,AV.ofOne]using f230 G b3 N s r x pre (by have:=ht.2;omega) σ d4⟩) [] _ ⟨.nil,[],.inr ⟨rfl,rfl,rfl⟩,by rw[←X];rfl⟩ (by simp)).v (ax.rfl' _) (SubN.perm (List.Perm.swap _ _ _)) ?_
    rintro r' σ' bu cm
    obtain⟨v,κ,ho,rfl⟩:=bu
    rw[nil_append]at ho
    rw[←X]
    have Z:¬b3=N:=λe=>D.1 e.symm
    (repeat' (first|(with_reducible (first|refine ab (λh=>?_) (λh=>?_)|refine ai (λh=>?_) (λh=>?_)|refine aj (λh=>?_) (λh=>?_))<;>(try simp only[DZ]at h))|(with_reducible refine AI (by omega) ?_)|simp only[EVz,seval,↓reduceIte,EV6,EV7,V,Z,D]|simp only[EVz,seval,↓reduceIte,EV6,EV7,V,Z]|(with_reducible intro I F;(try(have E:=F;simp only[EVK]at E;first|(have D:=AI E D)|(have D:=E))))|(with_reducible first|refine ae ?_ ?_|refine af ?_)|(exfalso;omega)))
    have bk:∀env,Weak G env ((b3,.cells 46 [.lst 2 (p.map Stp.cs)])::(N,.cells 25 [v])::κ) env [(N,.cells 25 [.lst 8 ((dV u s).map U.cs)])]:=λenv=>by
     rw[ac]
     rcases ho with ho|⟨ho,rfl,rfl⟩
     ·exact Weak.frz (cs:=[v]) (rest:=[]) (κ:=κ) ⟨.inr ⟨27,8,_,κ,ho,λq J=>J,rfl⟩,trivial⟩ (SubN.tail (SubN.refl _) _)
     ·rw[ho]
      exact Weak.trans (Weak.sub (SubN.tail (SubN.refl _) _)) (Weak.st ⟨rfl,rfl,⟨.inr rfl,trivial⟩,trivial⟩)
    clear cm D F E
   all_goals
    refine ay (ι:=List U) r (λi rr l=>r.foldl aK (dV u s)=rr.foldl aK l/\msr l<=1048576) (λi l=>[(5,.sc (.pointer (some ⟨N,0,none⟩))),(33,.lst 2 (r.map Stp.cs)),(34,.int .i64 r.length),(35,.int .i64 i)]) (λi l=>[(N,.cells 25 [.lst 8 (l.map U.cs)])]) (dV u s) ⟨rfl,by omega⟩ (bk _) (by omega) (λi y rr l O hx hw=>?_) (λl O hn=>?_)
    ·have ch:=gg l
     clear bk
     (repeat' (first|(with_reducible (first|refine ab (λh=>?_) (λh=>?_)|refine ai (λh=>?_) (λh=>?_)|refine aj (λh=>?_) (λh=>?_))<;>(try simp only[DZ]at h))|(with_reducible refine AI (by omega) ?_)|simp only[EVz,seval,↓reduceIte,EV6,EV7,hx.yes,hx.le0,hx.lt',hx.row,hw,hx.get,D]|simp only[EVz,seval,↓reduceIte,EV6,EV7,hx.yes,hx.le0,hx.lt',hx.row,hw,hx.get]|(with_reducible intro I F;(try(have E:=F;simp only[EVK]at E;first|(have D:=AI E D)|(have D:=E))))|(with_reducible first|refine ae ?_ ?_|refine af ?_)|(exfalso;omega)))
     have Z:¬I=N:=E
     have q2:¬N=I:=λe=>Z e.symm
     generalize ds:I=b7 at*
     clear D F E
     obtain⟨κ,M⟩:∃κ:Store,κ=[(b7,.cells 152 [.int .i64 y.kind,.str y.label]),(N,.cells 25 [.lst 8 (l.map U.cs)])]:=⟨_,rfl⟩
     have bo:(Store.keys κ).Nodup:=by rw[M];simp[Store.keys,Z]
     refine ay (ι:=Option Nat) l (λj rl c=>∀b,c=some b->b∉Store.keys κ) (λj c=>[(5,.sc (.pointer (some ⟨N,0,none⟩))),(7,.sc (.pointer (some ⟨b7,0,none⟩))),(8,.own c 27 8 ((aK (l.take j) y).map U.cs)),(33,.lst 2 (r.map Stp.cs)),(34,.int .i64 r.length),(35,.int .i64 i),(39,.lst 8 (l.map U.cs)),(40,.int .i64 l.length),(41,.int .i64 j)]) (λj c=>κ++tokS c 27 ((aK (l.take j) y).length*8)) none (by intro b h;cases h) (Weak.of (by simp[eJ,Env.get,AVle,aR,aK]) (by rw[M];exact SubN.refl _)) (by omega) (λj z rl c be Y bq=>?_) (λc be cp=>?_)
     ·have aw:aK (l.take (j+1)) y=aK (l.take j) y++z.kids.filter λk=>aL k y:=by rw[Y.take,ll]
      have an:(aK (l.take (j+1)) y).length<=1048576:=by
       have h1:=gg (aK (l.take (j+1)) y)
       have h2:=iG y (l.take (j+1))
       have h3:msr l=msr (l.take (j+1))+msr (l.drop (j+1)):=by rw[←jJ,take_append_drop]
       omega
      have bb:z.kids.length<=1048576:=by
       have h1:=gg z.kids
       have h2:=jm z.kids
       have h3:z.flat.length=1+(U.flats z.kids).length:=by rw[U.flat_eq,length_cons];omega
       have h4:msr l=msr (l.take (j+1))+msr (l.drop (j+1)):=by rw[←jJ,take_append_drop]
       have h5:msr (l.take (j+1))=msr (l.take j)+z.flat.length:=by rw[Y.take,jJ,cM,mi];omega
       omega
      rw[aw,length_append]at an
      rw[M]
      (repeat' (first|(with_reducible (first|refine ab (λh=>?_) (λh=>?_)|refine ai (λh=>?_) (λh=>?_)|refine aj (λh=>?_) (λh=>?_))<;>(try simp only[DZ]at h))|(with_reducible refine AI (by omega) ?_)|simp only[EVz,seval,↓reduceIte,EV6,EV7,Y.yes,Y.le0,Y.lt',Y.row,bq,Y.get,Z,q2,D]|simp only[EVz,seval,↓reduceIte,EV6,EV7,Y.yes,Y.le0,Y.lt',Y.row,bq,Y.get,Z,q2]|(with_reducible intro I F;(try(have E:=F;simp only[EVK]at E;first|(have D:=AI E D)|(have D:=E))))|(with_reducible first|refine ae ?_ ?_|refine af ?_)|(exfalso;omega)))
      have ah:=zPre_zero l y z.kids j
      have bl:zPre l y z.kids j z.kids.length=aK (l.take (j+1)) y:=by rw[aw,zPre_full]
      refine ay (ι:=Option Nat) z.kids (λk rk c=>∀b,c=some b->b∉Store.keys κ) (λk c=>[(5,.sc (.pointer (some ⟨N,0,none⟩))),(7,.sc (.pointer (some ⟨b7,0,none⟩))),(8,.own c 27 8 ((zPre l y z.kids j k).map U.cs)),(33,.lst 2 (r.map Stp.cs)),(34,.int .i64 r.length),(35,.int .i64 i),(39,.lst 8 (l.map U.cs)),(40,.int .i64 l.length),(41,.int .i64 j),(46,.lst 8 (z.kids.map U.cs)),(47,.int .i64 z.kids.length),(48,.int .i64 k)]) (λk c=>κ++tokS c 27 ((zPre l y z.kids j k).length*8)) c be (Weak.of (by simp[eJ,Env.get,AVle,aR,ah]) (by rw[M];simp only[ah];exact SubN.tail (SubN.refl _) _)) (Nat.lt_of_le_of_lt bb (by decide)) (λk q rk c T J ba=>?_) (λc T d3=>?_)
      ·have hA:=f231 G q y
       have bn:((z.kids.take k).filter λk=>aL k y).length<=k:=Nat.le_trans (length_filter_le _ _) (by rw[length_take];omega)
       have d2:=J.lt
       have bh:(aK (l.take j) y).length<=1048576:=Nat.le_trans (Nat.le_add_right _ _) an
       have bi:((z.kids.take k).filter λk=>aL k y).length<=1048576:=Nat.le_trans bn (Nat.le_trans (Nat.le_of_lt d2) bb)
       have dl:(zPre l y z.kids j k).length<=2097152:=by
        rw[zPre_len]
        exact Nat.add_le_add bh bi
       have d0:aL q y=true\/aL q y=false:=by
        cases aL q y
        ·exact .inr rfl
        ·exact .inl rfl
       rcases d0 with hc|hc
       ·have ef:zPre l y z.kids j (k+1)=zPre l y z.kids j k++[q]:=zPre_yes J hc
        rw[hc]at hA
        clear bx bd bs an bb aw ch ah bl hN bn hp ac bh bi
        rw[M]
        (repeat' (first|(with_reducible (first|refine ab (λh=>?_) (λh=>?_)|refine ai (λh=>?_) (λh=>?_)|refine aj (λh=>?_) (λh=>?_))<;>(try simp only[DZ]at h))|(with_reducible first|refine AI (by omega) ?_|refine aa hA ?_)|simp only[EVz,seval,↓reduceIte,EV6,EV7,J.yes,J.le0,J.lt',J.row,ba,J.get,Z,q2,D]|simp only[EVz,seval,↓reduceIte,EV6,EV7,J.yes,J.le0,J.lt',J.row,ba,J.get,Z,q2]|(with_reducible intro I F;(try(have E:=F;simp only[EVK]at E;first|(have D:=AI E D)|(have D:=E))))|(with_reducible first|refine ae ?_ ?_|refine af ?_)|(exfalso;omega)))
        rename_i dd bw _ _
        refine⟨[q.cs],rfl,by simp[U.cs_len],by simp,?_⟩
        refine app_kept2 (sz:=8) (bytes:=120) (rows:=(zPre l y z.kids j k).map U.cs) (ys:=[q.cs]) (m:=(zPre l y z.kids j k).length*8) [(b7,.cells 152 [.int .i64 y.kind,.str y.label]),(N,.cells 25 [.lst 8 (l.map U.cs)])] bw F (M ▸ T) (by rw[length_map]) (M ▸ bo) (by rw[length_map];simp;omega) (λgn d1=>?_)
        refine ap J gn d1 ?_
        rw[ef,map_append,length_append]
        simp only[length_map,map_cons,map_nil,length_append,length_cons,length_nil]
        exact Weak.rfl' _ _
       ·have ef:zPre l y z.kids j (k+1)=zPre l y z.kids j k:=zPre_not J hc
        rw[hc]at hA
        clear bx bd bs an bb aw ch ah bl hN bn hp ac bh bi
        rw[M]
        (repeat' (first|(with_reducible (first|refine ab (λh=>?_) (λh=>?_)|refine ai (λh=>?_) (λh=>?_)|refine aj (λh=>?_) (λh=>?_))<;>(try simp only[DZ]at h))|(with_reducible first|refine AI (by omega) ?_|refine aa hA ?_)|simp only[EVz,seval,↓reduceIte,EV6,EV7,J.yes,J.le0,J.lt',J.row,ba,J.get,Z,q2,D]|simp only[EVz,seval,↓reduceIte,EV6,EV7,J.yes,J.le0,J.lt',J.row,ba,J.get,Z,q2]|(with_reducible intro I F;(try(have E:=F;simp only[EVK]at E;first|(have D:=AI E D)|(have D:=E))))|(with_reducible first|refine ae ?_ ?_|refine af ?_)|(exfalso;omega)))
        refine ap J c (M ▸ T) ?_
        rw[ef]
        exact Weak.sub (SubN.tail (SubN.refl _) _)
      ·(try simp only[EVz,seval,↓reduceIte,EV6,EV7,d3,bq])
       refine ap Y c (M ▸ T) ?_
       rw[bl,M]
       exact Weak.rfl' _ _
     ·rw[M]
      (repeat' (first|(with_reducible (first|refine ab (λh=>?_) (λh=>?_)|refine ai (λh=>?_) (λh=>?_)|refine aj (λh=>?_) (λh=>?_))<;>(try simp only[DZ]at h))|(with_reducible refine AI (by omega) ?_)|simp only[EVz,seval,↓reduceIte,EV6,EV7,cp,hw,Z,q2,D]|simp only[EVz,seval,↓reduceIte,EV6,EV7,cp,hw,Z,q2]|(with_reducible intro I F;(try(have E:=F;simp only[EVK]at E;first|(have D:=AI E D)|(have D:=E))))|(with_reducible first|refine ae ?_ ?_|refine af ?_)|(exfalso;omega)))
      refine ap hx (aK l y) ⟨O.1,Nat.le_trans (iG y l) O.2⟩ ?_
      rw[take_length]
      refine Weak.trans (Weak.sub (σ':=[(N,.cells 25 [.own c 27 8 ((aK l y).map U.cs)])]) (SubN.tail (SubN.cons (SubN.nil _) _) _)) (Weak.st ⟨rfl,rfl,⟨.inr ⟨rfl,rfl⟩,trivial⟩,trivial⟩)
    ·(repeat' (first|(with_reducible (first|refine ab (λh=>?_) (λh=>?_)|refine ai (λh=>?_) (λh=>?_)|refine aj (λh=>?_) (λh=>?_))<;>(try simp only[DZ]at h))|(with_reducible refine AI (by omega) ?_)|simp only[EVz,seval,↓reduceIte,EV6,EV7,hn,D]|simp only[EVz,seval,↓reduceIte,EV6,EV7,hn]|(with_reducible intro I F;(try(have E:=F;simp only[EVK]at E;first|(have D:=AI E D)|(have D:=E))))|(with_reducible first|refine ae ?_ ?_|refine af ?_)|(exfalso;omega)))
     exact cw _ _ (Or.inl (Or.inl (by rw[O.1];rfl)))
theorem f82 (u:U) (p:List Stp) (ht:u.Tame) (N:u.flat.length<=1024) (hp:p.length<1000000):Pure G Tryz.prog 82 [.agg u.cs,.lst 2 (p.map Stp.cs)] (.lst 3 (((fY u p).map U.id).map Idd.cs)):=by
 have X:=f143 G u p ht N hp
 have O:=lI u p
 have M:u.flat.length*u.flat.length<=1048576:=Nat.mul_le_mul N N
 obtain⟨l,T⟩:∃l,fY u p=l:=⟨_,rfl⟩
 rw[T]at X O ⊢
 refine Pure.w c82 λR hR=>?_
 unfold s82 r82
 have ac:l.length<=1048576:=Nat.le_trans O M
 clear O M N
 (repeat' (first|(with_reducible (first|refine ab (λh=>?_) (λh=>?_)|refine ai (λh=>?_) (λh=>?_)|refine aj (λh=>?_) (λh=>?_))<;>(try simp only[DZ]at h))|(with_reducible first|refine AI (by omega) ?_|refine aa X ?_)|simp only[EVz,seval,↓reduceIte,EV6,EV7,D]|simp only[EVz,seval,↓reduceIte,EV6,EV7]|(with_reducible intro J F;(try(have E:=F;simp only[EVK]at E;first|(have D:=AI E D)|(have D:=E))))|(with_reducible first|refine ae ?_ ?_|refine af ?_)|(exfalso;omega)))
 refine ay (ι:=Option Nat) l (λi r c=>True) (λi c=>[(5,.own c 23 3 ((l.take i).map λx=>x.id.cs)),(10,.lst 8 (l.map U.cs)),(11,.int .i64 l.length),(12,.int .i64 i)]) (λi c=>tokS c 23 (i*3)) none trivial (Weak.of (by simp[eJ,Env.get,AVle,aR]) (SubN.refl _)) (by omega) (λi x r c V I Z=>?_) (λc V Y=>?_)
 ·have hi:=I.lt
  (repeat' (first|(with_reducible (first|refine ab (λh=>?_) (λh=>?_)|refine ai (λh=>?_) (λh=>?_)|refine aj (λh=>?_) (λh=>?_))<;>(try simp only[DZ]at h))|(with_reducible refine AI (by omega) ?_)|simp only[EVz,seval,↓reduceIte,EV6,EV7,I.yes,I.le0,I.lt',I.row,Z,I.get,D]|simp only[EVz,seval,↓reduceIte,EV6,EV7,I.yes,I.le0,I.lt',I.row,Z,I.get]|(with_reducible intro J F;(try(have E:=F;simp only[EVK]at E;first|(have D:=AI E D)|(have D:=E))))|(with_reducible first|refine ae ?_ ?_|refine af ?_)|(exfalso;omega)))
  refine gi (n:=i) (m':=(i+1)*3) (by first|exact iR|exact d5 (by assumption)|exact lk (by assumption) (by assumption)) (by rw[length_map,length_take];omega) rfl rfl rfl (by assumption) (by omega) (λgn=>?_)
  refine ap I gn trivial ?_
  simp only[I.take,map_append,map_cons,map_nil]
  exact Weak.rfl' _ _
 ·(repeat' (first|(with_reducible (first|refine ab (λh=>?_) (λh=>?_)|refine ai (λh=>?_) (λh=>?_)|refine aj (λh=>?_) (λh=>?_))<;>(try simp only[DZ]at h))|(with_reducible refine AI (by omega) ?_)|simp only[EVz,seval,↓reduceIte,EV6,EV7,Y,D]|simp only[EVz,seval,↓reduceIte,EV6,EV7,Y]|(with_reducible intro J F;(try(have E:=F;simp only[EVK]at E;first|(have D:=AI E D)|(have D:=E))))|(with_reducible first|refine ae ?_ ?_|refine af ?_)|(exfalso;omega)))
  exact hR _ _ (Or.inl (Or.inr ⟨rfl,by rw[take_length,map_map];rfl⟩))
theorem f43 (u:U) (p:List Stp) (T:u.Tame) (N:u.flat.length<=1024) (O:p.length<1000000):Pure G Tryz.prog 43 [.agg u.cs,.lst 2 (p.map Stp.cs)] (lH u p):=by
 have J:=f82 G u p T N O
 refine Pure.w c43 λR I=>?_
 unfold s43 r43
 unfold lH one at I
 have V:(fY u p).length<=1048576:=Nat.le_trans (lI u p) (Nat.mul_le_mul N N)
 generalize fY u p=l at*
 rcases l with _|⟨x,_|⟨y,l⟩⟩
 ·simp only[map_nil]at J I
  (repeat' (first|(with_reducible (first|refine ab (λh=>?_) (λh=>?_)|refine ai (λh=>?_) (λh=>?_)|refine aj (λh=>?_) (λh=>?_))<;>(try simp only[DZ]at h))|(with_reducible first|refine AI (by omega) ?_|refine aa J ?_)|simp only[EVz,seval,↓reduceIte,EV6,EV7,D]|simp only[EVz,seval,↓reduceIte,EV6,EV7]|(with_reducible intro M F;(try(have E:=F;simp only[EVK]at E;first|(have D:=AI E D)|(have D:=E))))|(with_reducible first|refine ae ?_ ?_|refine af ?_)|(exfalso;omega)))
  all_goals exact I _ _ (Or.inl (Or.inl rfl))
 ·simp only[map_cons,map_nil,Idd.cs]at J I
  (repeat' (first|(with_reducible (first|refine ab (λh=>?_) (λh=>?_)|refine ai (λh=>?_) (λh=>?_)|refine aj (λh=>?_) (λh=>?_))<;>(try simp only[DZ]at h))|(with_reducible first|refine AI (by omega) ?_|refine aa J ?_)|simp only[EVz,seval,↓reduceIte,EV6,EV7,D]|simp only[EVz,seval,↓reduceIte,EV6,EV7]|(with_reducible intro M F;(try(have E:=F;simp only[EVK]at E;first|(have D:=AI E D)|(have D:=E))))|(with_reducible first|refine ae ?_ ?_|refine af ?_)|(exfalso;omega)))
  all_goals first|exact I _ _ (Or.inl (Or.inl rfl))|(exfalso;omega)
 ·simp only[map_cons,Idd.cs]at J I
  (repeat' (first|(with_reducible (first|refine ab (λh=>?_) (λh=>?_)|refine ai (λh=>?_) (λh=>?_)|refine aj (λh=>?_) (λh=>?_))<;>(try simp only[DZ]at h))|(with_reducible first|refine AI (by omega) ?_|refine aa J ?_)|simp only[EVz,seval,↓reduceIte,EV6,EV7,D]|simp only[EVz,seval,↓reduceIte,EV6,EV7]|(with_reducible intro M F;(try(have E:=F;simp only[EVK]at E;first|(have D:=AI E D)|(have D:=E))))|(with_reducible first|refine ae ?_ ?_|refine af ?_)|(exfalso;omega)))
  all_goals first|exact I _ _ (Or.inl (Or.inl rfl))|(exfalso;omega)
end
section
variable (G:Glob)
end
section
variable (G:Glob)
def OwnW (l:List Wd) (r:AV) (σ:Store):Prop:=∃g,r= .own g 33 4 (l.map Wd.cs)/\σ=tokS g 33 (l.length*4)
end
theorem iu {n len:Nat} (D:1<=len):∀{ps:List Nat} {s:Nat},s<=n->Gaps n len s ps->s+ps.length<=n
 |[],s,h,_=>by simpa using h
 |p::ps,s,h,⟨h1,h2,h3⟩=>by
  have:=iu D h2 h3
  rw[length_cons];omega
def iX (q:List Wd×Int):AV:=.tup [.lst 4 (q.1.map Wd.cs),.int .i64 q.2]
section
variable (G:Glob)
end
section
variable (G:Glob)
theorem f161o (l:List (List UInt8)) (a b m:Int) (X:l.length<1000000) (N:0<=m) (Y:m<1000000000000):ag G Tryz.prog 161 [.lst 1 (l.map srow),.int .i64 a,.int .i64 b,.int .i64 m] [] (OwnW (aX a b l m)):=by
 refine ag.w c161 ?_
 unfold s161 r161
 (repeat' (first|simp only[EVz,seval,↓reduceIte,EV6,EV7,D.yes,D.le0,D.lt',D.get,D.row,V,aA (x:=m+(i:Int)) (by omega) (by have:=D.lt;omega)]|simp only[EVz,seval,↓reduceIte,EV6,EV7,O]|simp only[EVz,seval,↓reduceIte,EV6,EV7]|(with_reducible intro J E;(try(have F:=E;simp only[EVK]at F;(have T:=F))))|(refine ay (ι:=Option Nat) l (λi r c=>True) (λi c=>[(1,.int .i64 a),(2,.int .i64 b),(3,.int .i64 m),(9,.own c 33 4 ((aX a b (l.take i) m).map Wd.cs)),(12,.lst 1 (l.map srow)),(13,.int .i64 l.length),(14,.int .i64 i)]) (λi c=>tokS c 33 (i*4)) none trivial (Weak.of (by simp[eJ,Env.get,AVle,aR,aX]) (SubN.refl _)) (by omega) (λi x r c I D V=>?_) (λc I O=>?_))))
 ·have hi:=D.lt
  refine gi (n:=i) (m':=(i+1)*4) iR (by rw[length_map,cH,length_take];omega) rfl rfl rfl (by assumption) (by omega) (λM=>?_)
  refine ap D M trivial ?_
  rw[ph a b l m D,map_append]
  exact Weak.rfl' _ _
 ·rw[take_length]
  exact RET.mk (SubN.refl _) ⟨c,rfl,by rw[cH]⟩
theorem f161 (l:List (List UInt8)) (a b m:Int) (E:l.length<1000000) (D:0<=m) (F:m<1000000000000):Pure G Tryz.prog 161 [.lst 1 (l.map srow),.int .i64 a,.int .i64 b,.int .i64 m] (.lst 4 ((aX a b l m).map Wd.cs)):=
 ag.toPure (f161o G l a b m E D F) (by rintro r σ' ⟨g,rfl,rfl⟩;exact LeRep.of (.inl (.inr ⟨rfl,rfl⟩)))
theorem f277 (l:List Wd) (X:l.length<1000000):Pure G Tryz.prog 277 [.lst 4 (l.map Wd.cs)] (.lst 1 ((l.map Wd.text).map srow)):=by
 refine Pure.w c277 λR N=>?_
 unfold s277 r277
 (repeat' (simp only[EVz,seval,↓reduceIte,EV6,EV7]))
 refine ay (ι:=Option Nat) l (λi r c=>True) (λi c=>[(3,.own c 9 1 ((l.take i).map λw=>srow w.text)),(6,.lst 4 (l.map Wd.cs)),(7,.int .i64 l.length),(8,.int .i64 i)]) (λi c=>tokS c 9 (i*1)) none trivial (Weak.of (by simp[eJ,Env.get,AVle,aR]) (SubN.refl _)) (by omega) (λi x r c I D V=>?_) (λc I O=>?_)
 ·have hi:=D.lt
  (repeat' (first|simp only[EVz,seval,↓reduceIte,EV6,EV7,D.yes,D.le0,D.lt',D.row,V,D.get]|(with_reducible intro J E;(try(have F:=E;simp only[EVK]at F;(have T:=F))))))
  refine gi (n:=i) (m':=(i+1)*1) (d5 (by assumption)) (by rw[length_map,length_take];omega) rfl rfl rfl (by assumption) (by omega) (λM=>?_)
  refine ap D M trivial ?_
  simp only[D.take,map_append,map_cons,map_nil,srow]
  exact Weak.rfl' _ _
 ·(repeat' (simp only[EVz,seval,↓reduceIte,EV6,EV7,O]))
  exact N _ _ (Or.inl (Or.inr ⟨rfl,by rw[take_length,map_map];rfl⟩))
theorem f276 (w row:List (List UInt8)) (hw:w.length<1000000) (hr:row.length<1000000) (N:row≠[]):Pure G Tryz.prog 276 [.lst 1 (w.map srow),.lst 1 (row.map srow)] (.lst 1 ((occL row 0 0 w).map λn:Nat=>[AV.int .i64 (n:Int)])):=by
 have ac:1<=row.length:=by cases row<;>simp_all
 have X:decide ((row.length:Int)=0)=false:=decide_eq_false (by omega)
 refine Pure.w c276 λR hR=>?_
 unfold s276 r276
 (repeat' (simp only[EVz,seval,↓reduceIte,EV6,EV7,X]))
 refine jf (ι:=Nat×List Nat×Option Nat) (λp=>p.1<=w.length/\p.2.1.length<=p.1/\occL row 0 0 w=p.2.1++occL row 0 p.1 (w.drop p.1)) (λp=>w.length+1-p.1) (λp=>[(0,.lst 1 (w.map srow)),(1,.lst 1 (row.map srow)),(5,.own p.2.2 3 1 (p.2.1.map λn:Nat=>[AV.int .i64 (n:Int)])),(6,.int .i64 p.1)]) (λp=>tokS p.2.2 3 (p.2.1.length*1)) (0,[],none) ⟨by omega,by simp,by simp⟩ (Weak.of (by simp[eJ,Env.get,AVle,aR]) (SubN.refl _)) ?_
 rintro⟨i,l,c⟩ ⟨Z,h2,D⟩
 simp only at Z h2 D ⊢
 have w2:IntKind.i64.wrap ((i:Int)+(row.length:Int))=((i+row.length:Nat):Int):=by rw[aA (by omega) (by omega)];omega
 by_cases hi:i+row.length<=w.length
 ·have J:decide (((i+row.length:Nat):Int)<=(w.length:Int))=true:=decide_eq_true (by omega)
  have O:IntKind.i64.wrap ((i:Int)+1)=((i+1:Nat):Int):=jE (by omega)
  have M:=f192 G ((w.drop i).take row.length) row (by rw[length_take];omega)
  have I:List.drop i (List.take (i+row.length) (w.map srow))=((w.drop i).take row.length).map srow:=by rw[drop_take,map_take,map_drop];congr 1;omega
  rcases Classical.em ((w.drop i).take row.length=row)with hm|hm
  ·rw[decide_eq_true hm]at M
   rw[occL_hit N hm,drop_drop]at D
   (repeat' (first|(with_reducible first|refine AI (by omega) ?_|refine aa M ?_)|simp only[EVz,seval,↓reduceIte,EV6,EV7,J,O,w2,I]|(with_reducible intro T E;(try(have F:=E;simp only[EVK]at F;(have ah:=F))))|(refine⟨[[AV.int .i64 (i:Int)]],rfl,(by simp),(by simp),?_⟩)|(refine p6 (by((simp only[length_map]<;>exact d5 (by assumption)))) rfl rfl (by simp<;>omega) (λY=>?_))))
   refine⟨(i+row.length,l++[i],Y),⟨by simp only;omega,by simp only[length_append,length_cons,length_nil];omega,by simp only[append_assoc,cons_append,nil_append];exact D⟩,by simp only;omega,?_⟩
   simp only[map_append,map_cons,map_nil,length_append,length_map,length_cons,length_nil]
   exact Weak.rfl' _ _
  ·rw[decide_eq_false hm]at M
   rw[occL_miss hm,drop_drop]at D
   (repeat' (first|(with_reducible first|refine AI (by omega) ?_|refine aa M ?_)|simp only[EVz,seval,↓reduceIte,EV6,EV7,J,O,w2,I]))
   exact⟨(i+1,l,c),⟨by simp only;omega,by simp only;omega,D⟩,by simp only;omega,Weak.rfl' _ _⟩
 ·have J:decide (((i+row.length:Nat):Int)<=(w.length:Int))=false:=decide_eq_false (by omega)
  have V:occL row 0 i (w.drop i)=[]:=kk (by rw[length_drop];omega)
  rw[V,append_nil]at D
  (repeat' (simp only[EVz,seval,↓reduceIte,EV6,EV7,J,w2]))
  exact hR _ _ (Or.inl (Or.inr ⟨rfl,by rw[D]⟩))
end
def prow (n:Nat):List AV:=[.int .i64 n]
section
variable (G:Glob)
theorem f245 (w:List Wd) (row:List (List UInt8)) (nth:Int) (X:w.length<1000000) (hr:row.length<1000000) (V:row≠[]) (hn:0<=nth) (Z:nth<=1000000):Pure G Tryz.prog 245 [.lst 4 (w.map Wd.cs),.lst 1 (row.map srow),.int .i64 nth] (.lst 1 ((cF (occs w row) nth).map λn:Nat=>[AV.int .i64 (n:Int)])):=by
 have M:=f277 G w X
 have E:=f276 G (w.map Wd.text) row (by rw[length_map];exact X) hr V
 have O:occL row 0 0 (w.map Wd.text)=occs w row:=rfl
 rw[O]at E
 refine Pure.w c245 λR D=>?_
 unfold s245 r245
 obtain⟨ps,T⟩:∃ps,occs w row=ps:=⟨_,rfl⟩
 rw[T]at D E
 unfold cF at D
 rcases Classical.em (nth=0)with h0|h0
 ·have F:decide (nth=0)=true:=decide_eq_true h0
  rw[if_pos h0]at D
  (repeat' (first|(with_reducible first|refine aa M ?_|refine aa E ?_)|simp only[EVz,seval,↓reduceIte,EV6,EV7,F]))
  exact D _ _ (Or.inl (Or.inl rfl))
 ·have F:decide (nth=0)=false:=decide_eq_false h0
  have w1:IntKind.i64.wrap (nth-1)=nth-1:=aA (by omega) (by omega)
  rw[if_neg h0]at D
  rcases Classical.em ((ps.length:Int)<nth)with h1|h1
  ·have J:decide ((ps.length:Int)<nth)=true:=decide_eq_true h1
   have I:ps[(nth-1).toNat]? =none:=getElem?_eq_none (by omega)
   rw[I]at D
   (repeat' (first|(with_reducible first|refine aa M ?_|refine aa E ?_)|simp only[EVz,seval,↓reduceIte,EV6,EV7,F,J]))
   exact D _ _ (Or.inl (Or.inr rfl))
  ·have J:decide ((ps.length:Int)<nth)=false:=decide_eq_false h1
   have N:(nth-1).toNat<ps.length:=by omega
   have I:ps[(nth-1).toNat]? =some ps[(nth-1).toNat]:=getElem?_eq_getElem N
   rw[I]at D
   have Y:List.drop (nth-1).toNat (List.take nth.toNat (ps.map λn:Nat=>[AV.int .i64 (n:Int)]))=[[AV.int .i64 ((ps[(nth-1).toNat]:Nat):Int)]]:=by
    rw[show nth.toNat=(nth-1).toNat+1 by omega,take_add_one,getElem?_map,I,drop_append_of_le_length (by simp;omega),drop_eq_nil_of_le (by simp;omega)]
    rfl
   (repeat' (first|(with_reducible first|refine AI (by omega) ?_|refine aa M ?_|refine aa E ?_)|simp only[EVz,seval,↓reduceIte,EV6,EV7,F,J,w1,Y]))
   exact D _ _ (Or.inl (Or.inl rfl))
abbrev stp4 (a b n m:Int):List AV:=[.int .i64 a,.int .i64 b,.int .i64 n,.int .i64 m]
set_option maxHeartbeats 1000000 in
theorem f274 (D:Nat) (l:List Wd) (a b n m:Int) (I:l.length<1000000) (E:0<=m) (N:m<1000000000000):
  ag G Tryz.prog 274 [.sc (.pointer (some ⟨D,0,none⟩)),.lst 4 (l.map Wd.cs)] [(D,.cells 216 (stp4 a b n m))] λr σ'=>r= .lst 4 ((aX a b (l.map Wd.text) m).map Wd.cs)/\σ'=[(D,.cells 216 (stp4 a b n (m+l.length)))]:=by
 have M:=f277 G l I
 have J:=f161 G (l.map Wd.text) a b m (by rw[length_map];exact I) E N
 have F:(aX a b (l.map Wd.text) m).length=l.length:=by rw[cH,length_map]
 have O:IntKind.i64.wrap (m+(l.length:Int))=m+l.length:=aA (by omega) (by omega)
 refine ag.w c274 ?_
 unfold s274 r274 stp4
 (repeat' (first|(with_reducible first|refine aa M ?_|refine aa J ?_)|simp only[EVz,seval,↓reduceIte,EV6,EV7,F,O]|(with_reducible first|refine ae ?_ ?_|refine af ?_)))
 all_goals exact RET.mk (SubN.refl _) ⟨rfl,rfl⟩
end
end Go.Av
