/-
  ENACT, M17: the units that an address means, by the program.
-/
import Derived.Test.YtcecmifknojgeaaGreatDoorXM7toXM9
import Derived.Test.YtcecmifknojgeaaGreatDoorXAv34toXM15
namespace Go.Av
open Go Go.RowKit Go.Proofs List
set_option linter.unusedSimpArgs false
set_option linter.unusedVariables false
section
variable (G:Glob)
theorem f187 (f:Value) (N:Nat) (St:List U->Store->Prop) (hN:N<1000000):
  ∀(u:U),u.Tame->(∀x∈u.flat,∀pre σ,St pre σ->pre.length<N->cZ G Tryz.prog f [.agg x.cs] σ (λr σ'=>St (pre++[x]) σ'))->
   ∀pre σ,St pre σ->pre.length+u.flat.length<=N->aj G Tryz.prog 187 [.agg u.cs,.sc f] σ (λr σ'=>St (pre++u.flat) σ'):=by
 refine U.ind λu ih ht hf pre σ hSt hle=>?_
 have hkl:=ht.kids
 have hfl:=u.flat_eq
 have hlen:u.flat.length=1+(U.flats u.kids).length:=by rw[hfl,length_cons];omega
 refine aj.w c187 ?_
 unfold s187 r187
 (repeat' (simp only[EVz,seval,↓reduceIte,EV6,EV7]))
 refine bg σ [] (hf u u.flat_self pre σ hSt (by omega)) (aB.rfl' _) (by simpa using SubN.refl _) ?_
 rintro r σ' hSt'
 rw[append_nil]
 (repeat' (first|simp only[EVz,seval,↓reduceIte,EV6,EV7,hx.yes,hx.le0,hx.lt',hx.get,hx.row,hw]|simp only[EVz,seval,↓reduceIte,EV6,EV7,hn]|simp only[EVz,seval,↓reduceIte,EV6,EV7]|(with_reducible intro blk hblk;(try(have hnx:=hblk;simp only[EVK]at hnx;(have hne:=hnx))))|(refine Zq (ι:=Store×List U) u.kids (λi r c=>St c.2 c.1/\pre++u.flat=c.2++U.flats r/\c.2.length+(U.flats r).length<=N) (λi c=>[(1,.sc f),(10,.lst 8 (u.kids.map U.cs)),(11,.int .i64 u.kids.length),(12,.int .i64 i)]) (λi c=>c.1) (σ',pre++[u]) ⟨hSt',by rw[hfl];simp,by simp;omega⟩ (Weak.rfl' _ _) (by omega) (λi x r c hok hx hw=>?_) (λc hok hn=>?_))|fail))
 ·obtain⟨o1,o2,o3⟩:=hok
  rw[aD]at o2 o3
  rw[length_append]at o3
  refine bg c.1 [(blk,.cells 27 x.cs)] (ih x hx.mem (ht.kid hx.mem) (λy hy=>hf y (mg hx.mem hy)) c.2 c.1 o1 (by omega)).v (aB.rfl' _) SubN.comm1 ?_
  rintro r' σ2 hS2
  (repeat' (simp only[EVz,seval,↓reduceIte,EV6,EV7,hw]))
  exact af hx (σ2,c.2++x.flat) ⟨hS2,by rw[o2,append_assoc],by simp;omega⟩ (Weak.sub SubN.left)
 ·obtain⟨o1,o2,o3⟩:=hok
  exact RET.mk (SubN.refl _) (by rw[o2,bt,append_nil];exact o1)
def St1 (b3 b5:Nat) (p:List Stp) (s:Stp) (pre:List U) (σ:Store):Prop:=∃v κ,(bR 27 8 ((pre.filter λx=>aJ x s).map U.cs) v κ\/(pre.filter λx=>aJ x s)=[]/\v= .nil/\κ=[])/\σ=[(b3,.cells 28 [.lst 2 (p.map Stp.cs)]),(b5,.cells 25 [v])]++κ
theorem f188 (b3 b5:Nat) (s:Stp) (rs:List Stp) (x:U) (pre:List U) (hpre:pre.length<1000000) (σ:Store) (hS:St1 b3 b5 (s::rs) s pre σ):
  aj G Tryz.prog 188 [.agg x.cs,.sc (.pointer (some ⟨b3,0,none⟩)),.sc (.pointer (some ⟨b5,0,none⟩))] σ (λr σ'=>St1 b3 b5 (s::rs) s (pre++[x]) σ'):=by
 obtain⟨v,κ,ho,rfl⟩:=hS
 have hC:=f189 G x s
 have hfl:(pre.filter λx=>aJ x s).length<=pre.length:=length_filter_le _ _
 obtain⟨L,hL⟩:∃L,pre.filter (λx=>aJ x s)=L:=⟨_,rfl⟩
 rw[hL]at ho hfl
 refine aj.wn c188 λhnd=>?_
 unfold s188 r188
 have hL1:(pre++[x]).filter (λx=>aJ x s)=if aJ x s=true then L++[x]else L:=by
  rw[filter_append,hL]
  cases hq:aJ x s<;>simp[hq]
 rcases ho with⟨base,cap,rfl,⟨h0,rfl,rfl⟩|⟨b,pad,rfl,rfl,h1,h2,h3,h4⟩⟩|⟨h0,rfl,rfl⟩
 ·have hL0:L=[]:=by simpa using h0
  subst hL0
  have hn53:¬b5=b3:=by simp[Store.keys]at hnd;exact λe=>hnd e.symm
  have hn35:¬b3=b5:=λe=>hn53 e.symm
  cases hc:aJ x s with
  |false=>
   rw[hc]at hC hL1
   (repeat' (first|(with_reducible refine AI (by omega) ?_)|(with_reducible refine ab hC ?_)|simp only[EVz,seval,↓reduceIte,EV6,EV7,hn53,hn35,map_cons,getD_cons_zero]|fail))
   all_goals exact RET.mk' (SubN.refl _) ⟨_,[],.inl (by rw[hL1];exact⟨base,0,rfl,.inl ⟨rfl,rfl,rfl⟩⟩),rfl⟩
  |true=>
   rw[hc]at hC hL1
   have hem:la (.slice base 0 0):=by
    cases base with
    |none=>exact .inl rfl
    |some a=>exact .inr ⟨a,rfl⟩
   obtain⟨z0,hz0⟩:∃z0:List AV,z0=[.int .i64 0,.int .i64 0,.int .i64 0,.int .i64 0,.str [],.nil,.nil,.nil]:=⟨_,rfl⟩
   have hzl:z0.length=8:=by rw[hz0];rfl
   have hdr:∀pad':List AV,([z0].flatten++pad').drop 8=pad':=λpad'=>by rw[←hzl];simp
   have hln:∀pad':List AV,8<=([z0].flatten++pad').length:=λpad'=>by rw[length_append];simp[hzl]
   (repeat' (first|(with_reducible refine AI (by omega) ?_)|(with_reducible refine ab hC ?_)|simp only[EVz,seval,↓reduceIte,EV6,EV7,hn53,hn35,map_cons,getD_cons_zero,d7,hdr,hne]|simp only[EVz,seval,↓reduceIte,EV6,EV7,hn53,hn35,map_cons,getD_cons_zero,d7,hdr]|(with_reducible intro blk hblk;(try(have hnx:=hblk;simp only[EVK]at hnx;(have hne:=hnx))))|(with_reducible refine ak ?_ ?_)|(refine⟨[z0],rfl,(by simp[hzl]),(by simp[hz0]),?_⟩)|(refine cg (e:=27) (e':=27) (sz:=8) (bytes:=120) (rows:=[]) (ys:=[z0]) (g:=none) (xv:=.sc (.slice base 0 0)) (by kernel_rfl) (by kernel_rfl) (by kernel_rfl) (by kernel_rfl) (by decide) (by decide) rfl (.inl ⟨rfl,rfl,.inr ⟨_,rfl,hem⟩⟩) ⟨rfl,rfl⟩ (by simp) (λ_ h=>by cases h) (λb' cap' pad' hb g1 g2 g3 g4=>?_))|((simp only[EVK,d7]at hb;have hne:=AI hb hne))|(refine⟨hln _,_,_,Weak.rfl' _ _,?_⟩)|fail))
   all_goals
    refine RET.mk' (σ':=[(b3,AObj.cells 28 [.lst 2 ((s::rs).map Stp.cs)]),(b5,AObj.cells 25 [.sc (.slice (some ⟨b',0,none⟩) 1 cap')])]++[(b',AObj.cells 27 (x.cs++pad'))]) (SubN.trans (SubN.perm (perm_append_comm (l₁:=[_,_]) (l₂:=[_]))) (SubN.cons (SubN.tail (SubN.refl _) _) _)) ⟨_,_,.inl ?_,rfl⟩
    have:=bR.mk (e:=27) (sz:=8) (b:=b') (rows:=[x.cs]) (pad:=pad') (n:=1) (cap:=cap') rfl g1 g2 (by simp[U.cs_len]) (by rw[←g4];simp[U.cs_len,hzl])
    rw[hL1]
    simpa using this
 ·have hn53:¬b5=b3:=by simp[Store.keys]at hnd;exact λe=>hnd.1.1 e.symm
  have hn35:¬b3=b5:=λe=>hn53 e.symm
  have hn3b:¬b3=b:=by simp[Store.keys]at hnd;exact hnd.1.2
  have hn5b:¬b5=b:=by simp[Store.keys]at hnd;exact hnd.2
  have hnb3:¬b=b3:=λe=>hn3b e.symm
  have hnb5:¬b=b5:=λe=>hn5b e.symm
  rw[length_map]at h1
  cases hc:aJ x s with
  |false=>
   rw[hc]at hC hL1
   (repeat' (first|(with_reducible refine AI (by omega) ?_)|(with_reducible refine ab hC ?_)|simp only[EVz,seval,↓reduceIte,EV6,EV7,hn53,hn35,hn3b,hn5b,hnb3,hnb5,map_cons,getD_cons_zero,length_map]|fail))
   all_goals exact RET.mk' (SubN.refl _) ⟨_,[(b,_)],.inl (by rw[hL1];exact bR.mk (by simp) (by rw[length_map];exact h1) h2 h3 h4),rfl⟩
  |true=>
   rw[hc]at hC hL1
   obtain⟨z0,hz0⟩:∃z0:List AV,z0=[.int .i64 0,.int .i64 0,.int .i64 0,.int .i64 0,.str [],.nil,.nil,.nil]:=⟨_,rfl⟩
   have hzl:z0.length=8:=by rw[hz0];rfl
   obtain⟨R0,hR0⟩:∃R0,L.map U.cs=R0:=⟨_,rfl⟩
   have hRl:R0.length=L.length:=by rw[←hR0,length_map]
   rw[hR0]at h3 h4
   have hfl:=ax R0 h3
   have hsp:∀pad':List AV,aH ((R0++[z0]).flatten++pad') (0+R0.length*8) x.cs=(R0++[x.cs]).flatten++pad':=λpad'=>by
    rw[flatten_append,flatten_append,append_assoc,append_assoc]
    simpa using fb (A:=R0.flatten) (B:=z0) (B':=x.cs) (C:=pad') (o:=R0.length*8) (by rw[hfl]) (by rw[U.cs_len,hzl])
   have hln:∀pad':List AV,0+R0.length*8+8<=((R0++[z0]).flatten++pad').length:=λpad'=>by rw[length_append,flatten_append,length_append,hfl];simp[hzl]
   have hll:(R0++[z0]).length=R0.length+1:=by rw[length_append];rfl
   (repeat' (first|(with_reducible refine AI (by omega) ?_)|(with_reducible refine ab hC ?_)|simp only[EVz,seval,↓reduceIte,EV6,EV7,hn53,hn35,hn3b,hn5b,hnb3,hnb5,map_cons,getD_cons_zero,length_map,kW,l0,hsp,hll,hR0,hne]|simp only[EVz,seval,↓reduceIte,EV6,EV7,hn53,hn35,hn3b,hn5b,hnb3,hnb5,map_cons,getD_cons_zero,length_map,kW,l0,hsp,hll,hR0]|(with_reducible intro blk hblk;(try(have hnx:=hblk;simp only[EVK]at hnx;(have hne:=hnx))))|(with_reducible refine ak ?_ ?_)|(with_reducible refine am ?_)|(refine⟨[z0],rfl,(by simp[hzl]),(by simp[hz0]),?_⟩)|(refine cg (e:=27) (e':=27) (sz:=8) (bytes:=120) (rows:=R0) (ys:=[z0]) (g:=some b) (xv:=.sc (.slice (some ⟨b,0,none⟩) R0.length cap)) (by kernel_rfl) (by kernel_rfl) (by kernel_rfl) (by kernel_rfl) (by decide) (by decide) rfl (.inr ⟨b,cap,pad,rfl,rfl,(by simp[Store.get,hne,hn3b,hn5b]),h3,h4,by omega,h2⟩) ⟨rfl,rfl⟩ (by rw[hRl];simp;omega) (λ_ h=>by cases h) (λb' cap' pad' hb g1 g2 g3 g4=>?_))|((simp[Store.keys,Store.erase,hne,hn3b,hn5b]at hb;have hne:=AI hb hne))|fail))
   all_goals
    refine RET.mk' (σ':=[(b3,AObj.cells 28 [.lst 2 ((s::rs).map Stp.cs)]),(b5,AObj.cells 25 [.sc (.slice (some ⟨b',0,none⟩) (R0.length+1) cap')])]++[(b',AObj.cells 27 ((R0++[x.cs]).flatten++pad'))]) (SubN.trans (SubN.perm (perm_append_comm (l₁:=[_,_]) (l₂:=[_]))) (SubN.cons (SubN.tail (SubN.refl _) _) _)) ⟨_,_,.inl ?_,rfl⟩
    have hrow:∀r∈R0++[x.cs],r.length=8:=λr hr=>by
     rcases mem_append.1 hr with hr|hr
     ·exact h3 r hr
     ·simp only[mem_singleton]at hr;subst hr;exact U.cs_len x
    have:=bR.mk (e:=27) (sz:=8) (b:=b') (rows:=R0++[x.cs]) (pad:=pad') (n:=R0.length+1) (cap:=cap') (by simp) (by simpa using g1) g2 hrow (by rw[←g4];simp[U.cs_len,hzl])
    rw[hL1]
    simpa[hR0]using this
 ·subst h0
  have hn53:¬b5=b3:=by simp[Store.keys]at hnd;exact λe=>hnd e.symm
  have hn35:¬b3=b5:=λe=>hn53 e.symm
  cases hc:aJ x s with
  |false=>
   rw[hc]at hC hL1
   (repeat' (first|(with_reducible refine AI (by omega) ?_)|(with_reducible refine ab hC ?_)|simp only[EVz,seval,↓reduceIte,EV6,EV7,hn53,hn35,map_cons,getD_cons_zero]|fail))
   all_goals exact RET.mk' (SubN.refl _) ⟨_,[],.inr ⟨by rw[hL1];rfl,rfl,rfl⟩,rfl⟩
  |true=>
   rw[hc]at hC hL1
   obtain⟨z0,hz0⟩:∃z0:List AV,z0=[.int .i64 0,.int .i64 0,.int .i64 0,.int .i64 0,.str [],.nil,.nil,.nil]:=⟨_,rfl⟩
   have hzl:z0.length=8:=by rw[hz0];rfl
   have hdr:∀pad':List AV,([z0].flatten++pad').drop 8=pad':=λpad'=>by rw[←hzl];simp
   have hln:∀pad':List AV,8<=([z0].flatten++pad').length:=λpad'=>by rw[length_append];simp[hzl]
   (repeat' (first|(with_reducible refine AI (by omega) ?_)|(with_reducible refine ab hC ?_)|simp only[EVz,seval,↓reduceIte,EV6,EV7,hn53,hn35,map_cons,getD_cons_zero,d7,hdr,hne]|simp only[EVz,seval,↓reduceIte,EV6,EV7,hn53,hn35,map_cons,getD_cons_zero,d7,hdr]|(with_reducible intro blk hblk;(try(have hnx:=hblk;simp only[EVK]at hnx;(have hne:=hnx))))|(with_reducible refine ak ?_ ?_)|(refine⟨[z0],rfl,(by simp[hzl]),(by simp[hz0]),?_⟩)|(refine cg (e:=27) (e':=27) (sz:=8) (bytes:=120) (rows:=[]) (ys:=[z0]) (g:=none) (xv:=.nil) (by kernel_rfl) (by kernel_rfl) (by kernel_rfl) (by kernel_rfl) (by decide) (by decide) rfl (.inl ⟨rfl,rfl,.inl rfl⟩) ⟨rfl,rfl⟩ (by simp) (λ_ h=>by cases h) (λb' cap' pad' hb g1 g2 g3 g4=>?_))|((simp only[EVK,d7]at hb;have hne:=AI hb hne))|(refine⟨hln _,_,_,Weak.rfl' _ _,?_⟩)|fail))
   all_goals
    refine RET.mk' (σ':=[(b3,AObj.cells 28 [.lst 2 ((s::rs).map Stp.cs)]),(b5,AObj.cells 25 [.sc (.slice (some ⟨b',0,none⟩) 1 cap')])]++[(b',AObj.cells 27 (x.cs++pad'))]) (SubN.trans (SubN.perm (perm_append_comm (l₁:=[_,_]) (l₂:=[_]))) (SubN.cons (SubN.tail (SubN.refl _) _) _)) ⟨_,_,.inl ?_,rfl⟩
    have:=bR.mk (e:=27) (sz:=8) (b:=b') (rows:=[x.cs]) (pad:=pad') (n:=1) (cap:=cap') rfl g1 g2 (by simp[U.cs_len]) (by rw[←g4];simp[U.cs_len,hzl])
    rw[hL1]
    simpa using this
end
section
variable (G:Glob)
set_option maxHeartbeats 2000000 in
theorem f136 (u:U) (p:List Stp) (ht:u.Tame) (hN:u.flat.length<=1024) (hp:p.length<1000000):Pure G Tryz.prog 136 [.agg u.cs,.lst 2 (p.map Stp.cs)] (.lst 8 ((eu u p).map U.cs)):=by
 have hM:=f67 G p hp
 refine Pure.w c136 λR hR=>?_
 unfold s136 r136
 unfold eu at hR
 cases hok:cC p with
 |false=>
  rw[hok,if_pos rfl]at hR
  rw[hok]at hM
  (repeat' (first|(with_reducible refine ab hM ?_)|simp only[EVz,seval,↓reduceIte,EV6,EV7,hne]|simp only[EVz,seval,↓reduceIte,EV6,EV7]|(with_reducible intro blk hblk;(try(have hnx:=hblk;simp only[EVK]at hnx;(have hne:=hnx))))|fail))
  exact hR _ _ (Or.inl (Or.inr rfl))
 |true=>
  rw[hok]at hM hR
  simp only[Bool.true_eq_false,if_false]at hR
  by_cases h0:p=[]
  ·subst h0
   simp only[map_nil]at hM ⊢
   (repeat' (first|(with_reducible refine ab hM ?_)|simp only[EVz,seval,↓reduceIte,EV6,EV7,hne]|simp only[EVz,seval,↓reduceIte,EV6,EV7]|(with_reducible intro blk hblk;(try(have hnx:=hblk;simp only[EVK]at hnx;first|(have hne:=AI hnx hne)|(have hne:=hnx))))|(refine⟨[u.cs],rfl,(by simp[U.cs_len]),(by simp),?_⟩)|fail))
   exact hR _ _ (Or.inl (Or.inr ⟨rfl,rfl⟩))
  ·obtain⟨s,r,hpe⟩:∃s r,p=s::r:=by cases p<;>simp_all
   have hR2:∀x σ,AVle x (.lst 8 ((r.foldl ay (cu u s)).map U.cs))->RET x σ R:=by
    rw[hpe]at hR
    exact hR
   clear hR
   have hlen:p.length=r.length+1:=by rw[hpe];simp
   have hg0:(p.map Stp.cs).getD 0 []=s.cs:=by rw[hpe];rfl
   have e0:decide ((p.length:Int)=0)=false:=decide_eq_false (by omega)
   have hd1:List.drop 1 (List.take p.length (p.map Stp.cs))=r.map Stp.cs:=by rw[take_of_length_le (by simp),hpe];rfl
   have hrl:(r.map Stp.cs).length=r.length:=by simp
   have hB:=f131 G s.kind s.label
   have hN2:u.flat.length*u.flat.length<=1048576:=Nat.mul_le_mul hN hN
   have hfl:=ir u s
   have hfl2:=ee (cu u s)
   cases hb:j5 s
   case' true=>
    have hb2:(decide (s.kind=0)&&decide (s.label=[]))=true:=hb
    rw[hb2]at hB
    have hf0:cu u s=[u]:=by unfold cu;rw[hb];rfl
    (repeat' (first|(with_reducible refine AI (by omega) ?_)|(with_reducible first|refine ab hM ?_|refine ab hB ?_)|simp only[EVz,seval,↓reduceIte,EV6,EV7,hg0,e0,hd1,hne]|simp only[EVz,seval,↓reduceIte,EV6,EV7,hg0,e0,hd1]|(with_reducible intro blk hblk;(try(have hnx:=hblk;simp only[EVK]at hnx;first|(have hne:=AI hnx hne)|(have hne:=hnx))))|(refine⟨[u.cs],rfl,(by simp[U.cs_len]),(by simp),?_⟩)|fail))
    rename_i b3 _ _ _ b5 _ _ _
    have hWk:∀env,Weak G env [(blk,.tok 27 8),(b5,.cells 25 [.own (some blk) 27 8 [u.cs]]),(b3,.cells 28 [.lst 2 (p.map Stp.cs)])] env [(b5,.cells 25 [.lst 8 ((cu u s).map U.cs)])]:=λenv=>
     Weak.trans (Weak.sub (SubN.tail (SubN.cons (SubN.nil _) _) _)) (Weak.st ⟨rfl,rfl,⟨.inr ⟨rfl,by rw[hf0];rfl⟩,trivial⟩,trivial⟩)
    clear hblk hnx hne
   case' false=>
    have hb2:(decide (s.kind=0)&&decide (s.label=[]))=false:=hb
    rw[hb2]at hB
    have hf0:cu u s=u.flat.filter λx=>aJ x s:=by unfold cu;rw[hb];rfl
    (repeat' (first|(with_reducible refine AI (by omega) ?_)|(with_reducible first|refine ab hM ?_|refine ab hB ?_)|simp only[EVz,seval,↓reduceIte,EV6,EV7,hg0,e0,hd1,hne]|simp only[EVz,seval,↓reduceIte,EV6,EV7,hg0,e0,hd1]|(with_reducible intro blk hblk;(try(have hnx:=hblk;simp only[EVK]at hnx;first|(have hne:=AI hnx hne)|(have hne:=hnx))))|fail))
    rename_i b3 _ _ _
    generalize hbe:blk=b5 at*
    refine az [(b3,_),(b5,_)] [] (f187 G (.func (.func 188) #[] #[.pointer (some ⟨b3,0,none⟩),.pointer (some ⟨b5,0,none⟩)]) u.flat.length (λpre σ=>St1 b3 b5 (s::r) s pre σ) ht.2 u ht (λx hx pre σ hσ hp=>⟨_,#[],#[_,_],rfl,by simpa[AV.ofValue,AV.ofOne]using f188 G b3 b5 s r x pre (by have:=ht.2;omega) σ hσ⟩) [] _ ⟨.nil,[],.inr ⟨rfl,rfl,rfl⟩,by rw[←hpe];rfl⟩ (by simp)).v (aB.rfl' _) (SubN.perm (List.Perm.swap _ _ _)) ?_
    rintro r' σ' hSt' hnd'
    obtain⟨v,κ,ho,rfl⟩:=hSt'
    rw[nil_append]at ho
    rw[←hpe]
    have q1:¬b3=b5:=λe=>hne.1 e.symm
    (repeat' (first|(with_reducible refine AI (by omega) ?_)|simp only[EVz,seval,↓reduceIte,EV6,EV7,hd1,q1,hne]|fail))
    have hWk:∀env,Weak G env ((b3,.cells 28 [.lst 2 (p.map Stp.cs)])::(b5,.cells 25 [v])::κ) env [(b5,.cells 25 [.lst 8 ((cu u s).map U.cs)])]:=λenv=>by
     rw[hf0]
     rcases ho with ho|⟨ho,rfl,rfl⟩
     ·exact Weak.frz (cs:=[v]) (rest:=[]) (κ:=κ) ⟨.inr ⟨27,8,_,κ,ho,λq hq=>hq,rfl⟩,trivial⟩ (SubN.tail (SubN.refl _) _)
     ·rw[ho]
      exact Weak.trans (Weak.sub (SubN.tail (SubN.refl _) _)) (Weak.st ⟨rfl,rfl,⟨.inr rfl,trivial⟩,trivial⟩)
    clear hnd' hne hblk hnx
   all_goals
    refine Zq (ι:=List U) r (λi rr l=>r.foldl ay (cu u s)=rr.foldl ay l/\msr l<=1048576) (λi l=>[(5,.sc (.pointer (some ⟨b5,0,none⟩))),(33,.lst 2 (r.map Stp.cs)),(34,.int .i64 r.length),(35,.int .i64 i)]) (λi l=>[(b5,.cells 25 [.lst 8 (l.map U.cs)])]) (cu u s) ⟨rfl,by omega⟩ (hWk _) (by omega) (λi y rr l hok2 hx hw=>?_) (λl hok2 hn=>?_)
    ·have hll:=ee l
     clear hWk
     (repeat' (first|simp only[EVz,seval,↓reduceIte,EV6,EV7,hx.yes,hx.le0,hx.lt',hx.row,hw,hx.get,hne]|(with_reducible intro blk hblk;(try(have hnx:=hblk;simp only[EVK]at hnx;(have hne:=AI hnx hne))))|fail))
     have q1:¬blk=b5:=hnx
     have q2:¬b5=blk:=λe=>q1 e.symm
     generalize hb7:blk=b7 at*
     clear hne hblk hnx
     obtain⟨κ,hκ⟩:∃κ:Store,κ=[(b7,.cells 100 [.int .i64 y.kind,.str y.label]),(b5,.cells 25 [.lst 8 (l.map U.cs)])]:=⟨_,rfl⟩
     have hndκ:(Store.keys κ).Nodup:=by rw[hκ];simp[Store.keys,q1]
     refine Zq (ι:=Option Nat) l (λj rl c=>∀b,c=some b->b∉Store.keys κ) (λj c=>[(5,.sc (.pointer (some ⟨b5,0,none⟩))),(7,.sc (.pointer (some ⟨b7,0,none⟩))),(8,.own c 27 8 ((ay (l.take j) y).map U.cs)),(33,.lst 2 (r.map Stp.cs)),(34,.int .i64 r.length),(35,.int .i64 i),(39,.lst 8 (l.map U.cs)),(40,.int .i64 l.length),(41,.int .i64 j)]) (λj c=>κ++tokS c 27 ((ay (l.take j) y).length*8)) none (by intro b h;cases h) (Weak.of (by simp[cQ,Env.get,AVle,aP,ay]) (by rw[hκ];exact SubN.refl _)) (by omega) (λj z rl c hok3 hz hwz=>?_) (λc hok3 hnz=>?_)
     ·have hsn:ay (l.take (j+1)) y=ay (l.take j) y++z.kids.filter λk=>aJ k y:=by rw[hz.take,ik]
      have hsl:(ay (l.take (j+1)) y).length<=1048576:=by
       have h1:=ee (ay (l.take (j+1)) y)
       have h2:=fQ y (l.take (j+1))
       have h3:msr l=msr (l.take (j+1))+msr (l.drop (j+1)):=by rw[←fZ,take_append_drop]
       omega
      have hzk:z.kids.length<=1048576:=by
       have h1:=ee z.kids
       have h2:=gX z.kids
       have h3:z.flat.length=1+(U.flats z.kids).length:=by rw[U.flat_eq,length_cons];omega
       have h4:msr l=msr (l.take (j+1))+msr (l.drop (j+1)):=by rw[←fZ,take_append_drop]
       have h5:msr (l.take (j+1))=msr (l.take j)+z.flat.length:=by rw[hz.take,fZ,cR,j7];omega
       omega
      rw[hsn,length_append]at hsl
      rw[hκ]
      (repeat' (first|simp only[EVz,seval,↓reduceIte,EV6,EV7,hz.yes,hz.le0,hz.lt',hz.row,hwz,hz.get,q1,q2,hne]|(with_reducible intro blk hblk;(try(have hnx:=hblk;simp only[EVK]at hnx;(have hne:=AI hnx hne))))|fail))
      have hZ0:=lZ l y z.kids j
      have hZn:zPre l y z.kids j z.kids.length=ay (l.take (j+1)) y:=by rw[hsn,ml]
      refine Zq (ι:=Option Nat) z.kids (λk rk c=>∀b,c=some b->b∉Store.keys κ) (λk c=>[(5,.sc (.pointer (some ⟨b5,0,none⟩))),(7,.sc (.pointer (some ⟨b7,0,none⟩))),(8,.own c 27 8 ((zPre l y z.kids j k).map U.cs)),(33,.lst 2 (r.map Stp.cs)),(34,.int .i64 r.length),(35,.int .i64 i),(39,.lst 8 (l.map U.cs)),(40,.int .i64 l.length),(41,.int .i64 j),(46,.lst 8 (z.kids.map U.cs)),(47,.int .i64 z.kids.length),(48,.int .i64 k)]) (λk c=>κ++tokS c 27 ((zPre l y z.kids j k).length*8)) c hok3 (Weak.of (by simp[cQ,Env.get,AVle,aP,hZ0]) (by rw[hκ];simp only[hZ0];exact SubN.tail (SubN.refl _) _)) (Nat.lt_of_le_of_lt hzk (by decide)) (λk q rk c hok4 hq hwq=>?_) (λc hok4 hnq=>?_)
      ·have hA:=f189 G q y
       have hfk:((z.kids.take k).filter λk=>aJ k y).length<=k:=Nat.le_trans (length_filter_le _ _) (by rw[length_take];omega)
       have hkl:=hq.lt
       have hA1:(ay (l.take j) y).length<=1048576:=Nat.le_trans (Nat.le_add_right _ _) hsl
       have hB1:((z.kids.take k).filter λk=>aJ k y).length<=1048576:=Nat.le_trans hfk (Nat.le_trans (Nat.le_of_lt hkl) hzk)
       have hZl:(zPre l y z.kids j k).length<=2097152:=by
        rw[oL]
        exact Nat.add_le_add hA1 hB1
       have hcc:aJ q y=true\/aJ q y=false:=by
        cases aJ q y
        ·exact .inr rfl
        ·exact .inl rfl
       rcases hcc with hc|hc
       ·have ef:zPre l y z.kids j (k+1)=zPre l y z.kids j k++[q]:=oK hq hc
        rw[hc]at hA
        clear hfl hfl2 hN2 hsl hzk hsn hll hZ0 hZn hN hfk hp hf0 hA1 hB1
        rw[hκ]
        (repeat' (first|(with_reducible refine ab hA ?_)|simp only[EVz,seval,↓reduceIte,EV6,EV7,hq.yes,hq.le0,hq.lt',hq.row,hwq,hq.get,q1,q2,hne]|(with_reducible intro blk hblk;(try(have hnx:=hblk;simp only[EVK]at hnx;(have hne:=AI hnx hne))))|fail))
        rename_i b12 hb12 _ _
        refine⟨[q.cs],rfl,by simp[U.cs_len],by simp,?_⟩
        refine lX (sz:=8) (bytes:=120) (rows:=(zPre l y z.kids j k).map U.cs) (ys:=[q.cs]) (m:=(zPre l y z.kids j k).length*8) [(b7,.cells 100 [.int .i64 y.kind,.str y.label]),(b5,.cells 25 [.lst 8 (l.map U.cs)])] hb12 hblk (hκ ▸ hok4) (by rw[length_map]) (hκ ▸ hndκ) (by rw[length_map];simp;omega) (λgn hgn=>?_)
        refine af hq gn hgn ?_
        rw[ef,map_append,length_append]
        simp only[length_map,map_cons,map_nil,length_append,length_cons,length_nil]
        exact Weak.rfl' _ _
       ·have ef:zPre l y z.kids j (k+1)=zPre l y z.kids j k:=oF hq hc
        rw[hc]at hA
        clear hfl hfl2 hN2 hsl hzk hsn hll hZ0 hZn hN hfk hp hf0 hA1 hB1
        rw[hκ]
        (repeat' (first|(with_reducible refine ab hA ?_)|simp only[EVz,seval,↓reduceIte,EV6,EV7,hq.yes,hq.le0,hq.lt',hq.row,hwq,hq.get,q1,q2,hne]|(with_reducible intro blk hblk;(try(have hnx:=hblk;simp only[EVK]at hnx;(have hne:=AI hnx hne))))|fail))
        refine af hq c (hκ ▸ hok4) ?_
        rw[ef]
        exact Weak.sub (SubN.tail (SubN.refl _) _)
      ·(try simp only[EVz,seval,↓reduceIte,EV6,EV7,hnq,hwz])
       refine af hz c (hκ ▸ hok4) ?_
       rw[hZn,hκ]
       exact Weak.rfl' _ _
     ·rw[hκ]
      (repeat' (simp only[EVz,seval,↓reduceIte,EV6,EV7,hnz,hw,q1,q2,hne]))
      refine af hx (ay l y) ⟨hok2.1,Nat.le_trans (fQ y l) hok2.2⟩ ?_
      rw[take_length]
      refine Weak.trans (Weak.sub (σ':=[(b5,.cells 25 [.own c 27 8 ((ay l y).map U.cs)])]) (SubN.tail (SubN.cons (SubN.nil _) _) _)) (Weak.st ⟨rfl,rfl,⟨.inr ⟨rfl,rfl⟩,trivial⟩,trivial⟩)
    ·(repeat' (simp only[EVz,seval,↓reduceIte,EV6,EV7,hn,hne]))
     exact hR2 _ _ (Or.inl (Or.inl (by rw[hok2.1];rfl)))
theorem f71 (u:U) (p:List Stp) (ht:u.Tame) (hN:u.flat.length<=1024) (hp:p.length<1000000):Pure G Tryz.prog 71 [.agg u.cs,.lst 2 (p.map Stp.cs)] (.lst 3 (((eu u p).map U.id).map Idd.cs)):=by
 have hF:=f136 G u p ht hN hp
 have hl:=jG u p
 have hN2:u.flat.length*u.flat.length<=1048576:=Nat.mul_le_mul hN hN
 obtain⟨l,hle⟩:∃l,eu u p=l:=⟨_,rfl⟩
 rw[hle]at hF hl ⊢
 refine Pure.w c71 λR hR=>?_
 unfold s71 r71
 have hl2:l.length<=1048576:=Nat.le_trans hl hN2
 clear hl hN2 hN
 (repeat' (first|(with_reducible refine ab hF ?_)|simp only[EVz,seval,↓reduceIte,EV6,EV7]|fail))
 refine Zq (ι:=Option Nat) l (λi r c=>True) (λi c=>[(5,.own c 23 3 ((l.take i).map λx=>x.id.cs)),(10,.lst 8 (l.map U.cs)),(11,.int .i64 l.length),(12,.int .i64 i)]) (λi c=>tokS c 23 (i*3)) none trivial (Weak.of (by simp[cQ,Env.get,AVle,aP]) (SubN.refl _)) (by omega) (λi x r c hok hx hw=>?_) (λc hok hn=>?_)
 ·have hi:=hx.lt
  (repeat' (first|simp only[EVz,seval,↓reduceIte,EV6,EV7,hx.yes,hx.le0,hx.lt',hx.row,hw,hx.get]|(with_reducible intro blk hblk;(try(have hnx:=hblk;simp only[EVK]at hnx;(have hne:=hnx))))|fail))
  refine cV (n:=i) (m':=(i+1)*3) (by exact bT (by assumption)) (by rw[length_map,length_take];omega) rfl rfl rfl (by assumption) (by omega) (λgn=>?_)
  refine af hx gn trivial ?_
  simp only[hx.take,map_append,map_cons,map_nil]
  exact Weak.rfl' _ _
 ·(repeat' (simp only[EVz,seval,↓reduceIte,EV6,EV7,hn]))
  exact hR _ _ (Or.inl (Or.inr ⟨rfl,by rw[take_length,map_map];rfl⟩))
theorem f39 (u:U) (p:List Stp) (ht:u.Tame) (hN:u.flat.length<=1024) (hp:p.length<1000000):Pure G Tryz.prog 39 [.agg u.cs,.lst 2 (p.map Stp.cs)] (gx u p):=by
 have hU:=f71 G u p ht hN hp
 refine Pure.w c39 λR hR=>?_
 unfold s39 r39
 unfold gx one at hR
 have hl:(eu u p).length<=1048576:=Nat.le_trans (jG u p) (Nat.mul_le_mul hN hN)
 generalize eu u p=l at*
 rcases l with _|⟨x,_|⟨y,l⟩⟩
 ·simp only[map_nil]at hU hR
  (repeat' (first|(with_reducible refine ab hU ?_)|simp only[EVz,seval,↓reduceIte,EV6,EV7,hne]|simp only[EVz,seval,↓reduceIte,EV6,EV7]|(with_reducible intro blk hblk;(try(have hnx:=hblk;simp only[EVK]at hnx;(have hne:=hnx))))|fail))
  all_goals exact hR _ _ (Or.inl (Or.inl rfl))
 ·simp only[map_cons,map_nil,Idd.cs]at hU hR
  (repeat' (first|(with_reducible refine ab hU ?_)|simp only[EVz,seval,↓reduceIte,EV6,EV7,hne]|simp only[EVz,seval,↓reduceIte,EV6,EV7]|(with_reducible intro blk hblk;(try(have hnx:=hblk;simp only[EVK]at hnx;(have hne:=hnx))))|fail))
  all_goals exact hR _ _ (Or.inl (Or.inl rfl))
 ·simp only[map_cons,Idd.cs]at hU hR
  (repeat' (first|(with_reducible (refine ae (λh=>?_) (λh=>?_))<;>(try simp only[Da,Db,Dc,Dw,De,Df,Dg,Dh]at h))|(with_reducible refine AI (by omega) ?_)|(with_reducible refine ab hU ?_)|simp only[EVz,seval,↓reduceIte,EV6,EV7,hne]|simp only[EVz,seval,↓reduceIte,EV6,EV7]|(with_reducible intro blk hblk;(try(have hnx:=hblk;simp only[EVK]at hnx;(have hne:=hnx))))|(exfalso;omega)|fail))
  all_goals exact hR _ _ (Or.inl (Or.inl rfl))
end
theorem oi {W:List (List UInt8)} {k:Nat} {y x:List UInt8} {r:List (List UInt8)} (hy:W[k]? =some y):(decide ((W.drop k).take (x::r).length=x::r))=(decide (y=x)&&decide ((W.drop (k+1)).take r.length=r)):=by
 have hk:k<W.length:=by
  rw[List.getElem?_eq_some_iff]at hy
  exact hy.1
 have e:W.drop k=y::W.drop (k+1):=by
  rw[drop_eq_getElem_cons hk]
  rw[getElem?_eq_getElem hk]at hy
  injection hy with hy
  rw[hy]
 rw[e,length_cons,take_succ_cons]
 rw[Bool.eq_iff_iff]
 simp
section
variable (G:Glob)
theorem f200 (w:List Wd) (k:Nat) (row:List (List UInt8)) (hw:w.length<1000000) (hk:k<=1000000) (hr:row.length<1000000) (hr1:1<=row.length):Pure G Tryz.prog 200 [.lst 4 (w.map Wd.cs),.int .i64 k,.lst 1 (row.map srow)] (.bool (decide (((w.map Wd.text).drop k).take row.length=row))):=by
 have w0:IntKind.i64.wrap ((k:Int)+(row.length:Int))=(k:Int)+row.length:=au (by omega) (by omega)
 refine Pure.w c200 λR hR=>?_
 unfold s200 r200
 by_cases hlt:w.length<k+row.length
 ·have e0:decide ((w.length:Int)<(k:Int)+row.length)=true:=decide_eq_true (by omega)
  have e1:decide (((w.map Wd.text).drop k).take row.length=row)=false:=decide_eq_false λe=>by
   have:=congrArg List.length e
   rw[length_take,length_drop,length_map]at this
   omega
  rw[e1]at hR
  (repeat' (simp only[EVz,seval,↓reduceIte,EV6,EV7,w0,e0]))
  exact RET.eq hR rfl
 ·have e0:decide ((w.length:Int)<(k:Int)+row.length)=false:=decide_eq_false (by omega)
  (repeat' (simp only[EVz,seval,↓reduceIte,EV6,EV7,w0,e0]))
  refine Zq row (λi r (c:Unit)=>decide (((w.map Wd.text).drop k).take row.length=row)=decide (((w.map Wd.text).drop (k+i)).take r.length=r)) (λi c=>[(0,.lst 4 (w.map Wd.cs)),(1,.int .i64 k),(2,.lst 1 (row.map srow)),(7,.int .i64 i)]) (λ_ _=>[]) () rfl (Weak.rfl' _ _) (by omega) (λi x r c hok hx hw2=>?_) (λc hok hn=>?_)
  ·have hi:=hx.lt
   have hkl:k+i<w.length:=by omega
   have w1:IntKind.i64.wrap ((k:Int)+(i:Int))=((k+i:Nat):Int):=by rw[au (by omega) (by omega)];omega
   obtain⟨y,hy⟩:∃y,w[k+i]? =some y:=⟨w[k+i],getElem?_eq_getElem hkl⟩
   have hg:(w.map Wd.cs).getD (k+i) []=y.cs:=by simp only[List.getD,getElem?_map,hy,Option.map_some,Option.getD_some]
   have hb:((k+i:Nat):Int)<(w.length:Int):=by omega
   have hb0:(0:Int)<=((k+i:Nat):Int):=by omega
   rw[oi (y:=y.text) (by rw[getElem?_map,hy];rfl)]at hok
   (repeat' (first|(with_reducible (refine ae (λh=>?_) (λh=>?_))<;>(try simp only[Da,Db,Dc,Dw,De,Df,Dg,Dh]at h))|simp only[EVz,seval,↓reduceIte,EV6,EV7,hx.yes,hx.le0,hx.lt',hx.row,hw2,hx.get,w1,hg,hb,hb0]|fail))
   ·rw[decide_eq_false (p:=y.text=x) h,Bool.false_and]at hok
    exact RET.eq hR (by rw[hok])
   ·have h':y.text=x:=Classical.byContradiction h
    rw[decide_eq_true h',Bool.true_and,Nat.add_assoc]at hok
    exact af hx () hok (Weak.rfl' _ _)
  ·(repeat' (simp only[EVz,seval,↓reduceIte,EV6,EV7,hn]))
   exact RET.eq hR (by rw[hok];simp)
theorem f152 (w:List Wd) (row:List (List UInt8)) (hw:w.length<1000000) (hr:row.length<1000000) (hr0:row≠[]):Pure G Tryz.prog 152 [.lst 4 (w.map Wd.cs),.lst 1 (row.map srow)] (.lst 1 ((occs w row).map λn:Nat=>[AV.int .i64 (n:Int)])):=by
 have hl1:1<=row.length:=by cases row<;>simp_all
 refine Pure.w c152 λR hR=>?_
 unfold s152 r152
 (repeat' (first|simp only[EVz,seval,↓reduceIte,EV6,EV7]|(with_reducible intro blk hblk;(try(have hnx:=hblk;simp only[EVK]at hnx;(have hne:=hnx))))|(refine⟨[],rfl,(by simp),rfl,?_⟩)|fail))
 refine iy (ι:=Nat×List Nat×Option Nat) (λp=>p.1<=w.length+row.length/\p.2.1.length<=p.1/\occs w row=p.2.1++occL row 0 p.1 ((w.map Wd.text).drop p.1)) (λp=>w.length+row.length+1-p.1) (λp=>[(0,.lst 4 (w.map Wd.cs)),(1,.lst 1 (row.map srow)),(5,.own p.2.2 3 1 (p.2.1.map λn:Nat=>[AV.int .i64 (n:Int)])),(6,.int .i64 p.1)]) (λp=>tokS p.2.2 3 (p.2.1.length*1)) (0,[],some blk) ⟨by omega,by simp,by simp[occs]⟩ (Weak.rfl' _ _) ?_
 rintro⟨i,l,c⟩ ⟨h1,h2,h3⟩
 simp only at h1 h2 h3 ⊢
 by_cases hi:i<w.length
 ·have e0:decide ((i:Int)<(w.length:Int))=true:=decide_eq_true (by omega)
  have hB:=f200 G w i row hw (by omega) hr hl1
  have w1:IntKind.i64.wrap ((i:Int)+1)=((i+1:Nat):Int):=iQ (by omega)
  have w2:IntKind.i64.wrap ((i:Int)+(row.length:Int))=((i+row.length:Nat):Int):=by rw[au (by omega) (by omega)];omega
  rcases Classical.em (((w.map Wd.text).drop i).take row.length=row)with hm|hm
  ·rw[decide_eq_true hm]at hB
   rw[oa hr0 hm,drop_drop]at h3
   (repeat' (first|(with_reducible refine ab hB ?_)|simp only[EVz,seval,↓reduceIte,EV6,EV7,e0,w1,w2]|(with_reducible intro blk hblk;(try(have hnx:=hblk;simp only[EVK]at hnx;(have hne:=hnx))))|(refine⟨[[AV.int .i64 (i:Int)]],rfl,(by simp),(by simp),?_⟩)|(refine cH (by((simp only[length_map]<;>exact bT (by assumption)))) rfl rfl (by simp<;>omega) (λgn=>?_))|fail))
   refine⟨(i+row.length,l++[i],gn),⟨by simp only;omega,by simp only[length_append,length_cons,length_nil];omega,by simp only[append_assoc,cons_append,nil_append];exact h3⟩,by simp only;omega,?_⟩
   simp only[map_append,map_cons,map_nil,length_append,length_map,length_cons,length_nil]
   exact Weak.rfl' _ _
  ·rw[decide_eq_false hm]at hB
   rw[mp hm,drop_drop]at h3
   (repeat' (first|(with_reducible refine ab hB ?_)|simp only[EVz,seval,↓reduceIte,EV6,EV7,e0,w1,w2]|fail))
   exact⟨(i+1,l,c),⟨by simp only;omega,by simp only;omega,h3⟩,by simp only;omega,Weak.rfl' _ _⟩
 ·have e0:decide ((i:Int)<(w.length:Int))=false:=decide_eq_false (by omega)
  have e1:(w.map Wd.text).drop i=[]:=drop_eq_nil_of_le (by simp;omega)
  rw[e1,occL,append_nil]at h3
  (repeat' (simp only[EVz,seval,↓reduceIte,EV6,EV7,e0]))
  exact hR _ _ (Or.inl (Or.inr ⟨rfl,by rw[h3]⟩))
end
end Go.Av
