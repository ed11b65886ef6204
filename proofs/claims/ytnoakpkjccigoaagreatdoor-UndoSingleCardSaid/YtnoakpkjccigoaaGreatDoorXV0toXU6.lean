/-
  UNDO, walks 0: what a call leaves as it is, in a larger store; a tree and a truth value handed back together.
-/
import Derived.Test.YtnoakpkjccigoaaGreatDoorXM14toXAv36
import Derived.Test.YtnoakpkjccigoaaGreatDoorXM15toXM17
import Derived.Test.YtnoakpkjccigoaaGreatDoorXE10toXAv27
import Derived.Test.YtnoakpkjccigoaaGreatDoorXM4toXE16
namespace Go.Av
open Go Go.RowKit Go.Proofs List
set_option linter.unusedSimpArgs false
set_option linter.unusedVariables false
section
variable {G:Glob} {P:Program}
theorem keys_uniq {σ:Store} (h:σ.keys.Nodup) {b:Nat} {x y:AObj} (hx:(b,x)∈σ) (hy:(b,y)∈σ):x=y:=by
 induction σ with
 |nil=>cases hx
 |cons p σ ih=>
  simp only[Store.keys,map_cons,nodup_cons]at h
  rcases mem_cons.1 hx with hx'|hx'<;>rcases mem_cons.1 hy with hy'|hy'
  ·rw[hx'.symm]at hy';injection hy' with _ e;exact e.symm
  ·exact absurd (mem_map.2 ⟨_,hy',by rw[←hx']⟩) h.1
  ·exact absurd (mem_map.2 ⟨_,hx',by rw[←hy']⟩) h.1
  ·exact ih h.2 hx' hy'
theorem ag.keepIn {k:FuncId} {args:List AV} {σ0 σ:Store} {v:AV} (h:ag G P k args σ0 λr σ'=>r=v/\σ'=σ0) (hs:Sub σ0 σ) (hn:σ.keys.Nodup->σ0.keys.Nodup):ag G P k args σ λr σ'=>r=v/\σ'=σ:=
 ⟨h.1,λρ w vs hS hA=>by
  have hnd:=hS.nodup_left
  obtain⟨σr,hr⟩:∃σr,σr=σ.filter λp=>decide (p.1∉σ0.keys):=⟨_,rfl⟩
  have hsub:Sub (σ0++σr) σ:=λq hq=>by
   rcases mem_append.1 hq with hq|hq
   ·exact hs q hq
   ·rw[hr]at hq;exact(mem_filter.1 hq).1
  have hsup:Sub σ (σ0++σr):=λq hq=>by
   by_cases hk:q.1∈σ0.keys
   ·obtain⟨p,hp,e⟩:=mem_map.1 hk
    have:p=q:=Prod.ext e (keys_uniq hnd (b:=q.1) (by have:=hs p hp;rw[←e];exact this) hq)
    exact mem_append.2 (.inl (this ▸ hp))
   ·exact mem_append.2 (.inr (by rw[hr];exact mem_filter.2 ⟨hq,by simpa using hk⟩))
  have hnd2:(σ0++σr:Store).keys.Nodup:=by
   rw[az]
   refine nodup_append.2 ⟨hn hnd,?_,λa ha b hb e=>?_⟩
   ·have:List.Sublist (Store.keys σr) (Store.keys σ):=by rw[hr];exact List.Sublist.map _ filter_sublist
    exact this.nodup hnd
   ·obtain⟨p,hp,rfl⟩:=mem_map.1 hb
    rw[hr]at hp
    have:=(mem_filter.1 hp).2
    simp only[decide_not,Bool.not_eq_true',decide_eq_false_iff_not]at this
    exact this (e ▸ ha)
  have s1:SubN (σ0++σr) σ:=⟨hsub,λ_=>hnd2⟩
  have s2:SubN σ (σ0++σr):=⟨hsup,λ_=>hnd⟩
  have hS1:=hS.subN s1
  rw[append_assoc]at hS1
  have hA1:RepL (σ0++(σr++ρ)) w args vs.toList:=RepL.sub (λq hq=>by
   rw[←append_assoc]at hq
   rcases mem_append.1 hq with hq|hq
   ·exact mem_append.2 (.inl (hsub q hq))
   ·exact mem_append.2 (.inr hq)) hA
  refine(h.2 (σr++ρ) w vs hS1 hA1).mono λe w' ⟨v',r,σ',he,⟨hv,hσ⟩,hsat,hev,hrep⟩=>?_
  subst hσ hv
  have hsat2:Sat G ((σ'++σr)++ρ) w':=by rwa [append_assoc]
  rw[←append_assoc]at hrep
  refine⟨v',r,σ,he,⟨rfl,rfl⟩,hsat2.subN s2,?_,Rep.sub (λq hq=>by
   rcases mem_append.1 hq with hq|hq
   ·exact mem_append.2 (.inl (s2.1 q hq))
   ·exact mem_append.2 (.inr hq)) hrep⟩
  have e1:Ev σ w (σ'++σr) w:=Ev.of_sub s1.1 w
  have e2:Ev (σ'++σr) w (σ'++σr) w':=hev.frame (λq hq=>hq)
  exact e1.trans (e2.trans (Ev.of_sub s2.1 w'))⟩
theorem cd.keepIn {f:Value} {args:List AV} {σ0 σ:Store} {v:AV} (h:cd G P f args σ0 λr σ'=>r=v/\σ'=σ0) (hs:SubN σ0 σ):cd G P f args σ λr σ'=>r=v/\σ'=σ:=by
 obtain⟨k,a,b,e,h⟩:=h
 exact⟨k,a,b,e,h.keepIn hs.1 hs.2⟩
theorem ag.freezeKT {k:FuncId} {args ys:List AV} {x:AV} {σ:Store} {R1:Store->Prop} (hx:x.flat=true) (h:ag G P k args σ (λr σ'=>∃xs κ σ1,r= .tup [.agg xs,x]/\FrzL κ xs ys/\σ'=κ++σ1/\R1 σ1)):ag G P k args σ (λr σ'=>r= .tup [.agg ys,x]/\R1 σ'):=
 ⟨h.1,λρ w vs hS hA=>(h.2 ρ w vs hS hA).mono λe w' ⟨v,r,σ',he,⟨xs,κ,σ1,hr,hF,hσ,h1⟩,hsat,hev,hrep⟩=>by
  subst hr hσ
  rw[append_assoc]at hsat hrep
  have hsub:Sub σ1 (κ++σ1):=λq hq=>mem_append.2 (.inr hq)
  refine⟨v,.tup [.agg ys,x],σ1,he,⟨rfl,h1⟩,?_,hev.trans (Ev.of_sub hsub _),?_⟩
  ·have:Sat G ((κ++σ1)++ρ) w':=by rwa [append_assoc]
   exact this.subN SubN.appR
  ·simp only[Rep,RepL]at hrep ⊢
   obtain⟨vs',rfl,u1,us1,e1,hu1,u2,us2,e2,hu2,e3⟩:=hrep
   obtain⟨ws,g1,g2,g3⟩:=hu1
   exact⟨vs',rfl,u1,us1,e1,⟨ws,g1,g2,FrzL.rep hsat hF g3⟩,u2,us2,e2,AV.flat_rep hx hu2,e3⟩⟩
end
theorem aM {σ:Store}:Sub [] σ:=λ_ h=>by cases h
theorem aD {a:Nat×AObj} {σ0 σ:Store} (h1:a∈σ) (h:Sub σ0 σ):Sub (a::σ0) σ:=λq hq=>by
 rcases mem_cons.1 hq with rfl|hq
 ·exact h1
 ·exact h q hq
def iV (G:Glob) (f:Value) (g:U->U) (σ:Store) (x:U):Prop:=cd G Tryz.prog f [.agg x.cs] σ λr σ'=>r= .agg (g x).cs/\σ'=σ
theorem oh {κ:Store}:∀xs:List AV,FrzL κ xs xs
 |[]=>trivial
 |x::xs=>⟨.inl rfl,oh xs⟩
theorem n7 {u:U}:fnd u.id u=u:=aB (by rw[aN rfl];rfl)
theorem kid_par {q:Idd} {x:U} {a b:List U} (u:U) (hn:u.ids.Nodup) (hq:q∈u.ids) (hk:(fnd q u).kids=a++x::b):∃d,aF x.id u=some (fnd q u,d,a.length):=by
 revert hk
 refine U.wayInd (i:=q) (p:=λu=>(fnd q u).kids=a++x::b->∃d,aF x.id u=some (fnd q u,d,a.length)) ?_ ?_ u hn hq
 ·intro u hn h hk
  have e:fnd q u=u:=by rw[←h];exact n7
  rw[e]at hk ⊢
  obtain⟨n1,n2⟩:=U.nd_kids hn
  have hm:x.id∈U.idss u.kids:=de (k:=x) (by rw[hk];simp) (cR x)
  obtain⟨a',k,b',s⟩:=eo n1 hm
  have hne:u.id≠x.id:=λe=>n2 (e ▸ hm)
  have hxf:x∈u.flat:=dM u.flat_self (by rw[hk];simp)
  have hkf:k∈u.flat:=dM u.flat_self (by rw[s.eq];simp)
  have hxk:k=x:=by
   have h1:x∈a'++k::b':=by rw[←s.eq,hk];simp
   rcases mem_append.1 h1 with h1|h1
   ·exact absurd (de h1 (cR x)) s.left
   ·rcases mem_cons.1 h1 with h1|h1
    ·exact h1.symm
    ·exact absurd (de h1 (cR x)) s.right
  have ha:a'.length=a.length:=by
   have e2:a'++k::b'=a++x::b:=by rw[←s.eq,hk]
   have f1:cf (λk=>decide (k.id=x.id)) (a'++k::b')=some a'.length:=eO (eX s.left) (by rw[hxk];simp)
   have hna:x.id∉U.idss a:=by
    have:(U.idss (a++x::b)).Nodup:=by rw[←hk];exact n1
    rw[U.idss_app]at this
    intro hx
    exact(nodup_append.1 this).2.2 x.id hx x.id (de (k:=x) (by simp) (cR x)) rfl
   have f2:cf (λk=>decide (k.id=x.id)) (a++x::b)=some a.length:=eO (eX hna) (by simp)
   rw[e2,f2]at f1
   injection f1 with f1
   exact f1.symm
  exact⟨0,by rw[g7 hne s (by rw[hxk]),ha]⟩
 ·intro u a' k b' hn h s ih hk
  rw[s.fnd hn s.mem]at hk ⊢
  obtain⟨d,hd⟩:=ih hk
  have hkn:k.id≠x.id:=λe=>by rw[cB e]at hd;cases hd
  have hxm:x.id∈k.ids:=by
   have:U.way x.id k≠[]:=λe=>by unfold aF at hd;rw[e]at hd;cases hd
   exact cq.1 this
  have s':=s.other (U.nd_kids hn).1 hxm
  exact⟨d+1,by rw[fO (Split.ne hn s hxm) s' hkn,hd];rfl⟩
theorem jR {j:Idd} {f:U->U} (u:U) (hn:u.ids.Nodup) (hj:j∈u.ids) (hf:∀y,(f y).id=y.id):fnd j (U.wth j f u)=f (fnd j u):=by
 refine U.wayInd (i:=j) (p:=λu=>fnd j (U.wth j f u)=f (fnd j u)) ?_ ?_ u hn hj
 ·intro u hn h
  have e:fnd j u=u:=by rw[←h];exact n7
  rw[bA h,e]
  exact aB (by rw[aN (by rw[hf];exact h)];rfl)
 ·intro u a k b hn h s ih
  rw[s.fnd hn s.mem,←ih,s.wth h]
  have hkm:(U.wth j f k).id=k.id:=wth_id hf k
  have hw:U.way j (U.wth j f k)≠[]:=by
   rw[cq]
   obtain⟨l,r,e1,e2⟩:=gO (f:=f) k s.nd s.mem
   rw[e2]
   have:=cR (f (fnd j k))
   rw[hf,(cS k s.nd s.mem).1]at this
   simp[this]
  have ha:U.ways j a=[]:=(iC a).2 s.left
  unfold fnd
  rw[U.way_eq,if_neg h]
  simp only
  rw[fU,ha,U.ways_cons]
  have e0:orW [] (orW (U.way j (U.wth j f k)) (U.ways j b))=orW (U.way j (U.wth j f k)) (U.ways j b):=rfl
  rw[e0,orW_ne hw,n9 hw]
  cases hwk:U.way j (U.wth j f k)with
  |nil=>exact absurd hwk hw
  |cons y r=>simp[getLastD_eq_getLast?,getLast?_cons]
theorem jQ {j:Idd} {f:U->U} {u:U} (hn:u.ids.Nodup) (hj:j∈u.ids) (hf:∀y,(f y).id=y.id):j∈(U.wth j f u).ids:=by
 obtain⟨l,r,_,e2⟩:=gO (f:=f) u hn hj
 have hm:=cR (f (fnd j u))
 rw[hf,(cS u hn hj).1]at hm
 rw[e2]
 simp[hm]
theorem ng {r:U} (hr:r.ids.Nodup) {q:Idd} (hq:q∈r.ids) {k:Nat} {x:U} (hv:(U.wth q (λy=>{y with kids:=insAt y.kids k x}) r).ids.Nodup):
  without x.id (U.wth q (λy=>{y with kids:=insAt y.kids k x}) r)=r/\fnd x.id (U.wth q (λy=>{y with kids:=insAt y.kids k x}) r)=x/\x.id∈(U.wth q (λy=>{y with kids:=insAt y.kids k x}) r).ids:=by
 have hf:=jR (f:=λy=>{y with kids:=insAt y.kids k x}) r hr hq (λ_=>rfl)
 obtain⟨v,hve⟩:∃v,U.wth q (λy=>{y with kids:=insAt y.kids k x}) r=v:=⟨_,rfl⟩
 have hqv:q∈v.ids:=hve ▸ jQ hr hq (λ_=>rfl)
 have hkids:(fnd q v).kids=(fnd q r).kids.take k++x::(fnd q r).kids.drop k:=by rw[←hve,hf];rfl
 rw[hve]at hv ⊢
 obtain⟨d,hd⟩:=kid_par v hv hqv hkids
 have hqi:(fnd q v).id=q:=(cS v hv hqv).1
 have hxf:x∈v.flat:=dM (aP v hv hqv) (by rw[hkids];simp)
 refine⟨?_,fnd_here hv hxf,mem_map.2 ⟨x,hxf,rfl⟩⟩
 unfold without
 rw[hd]
 simp only
 rw[hqi,←hve,mI (f:=λy=>{y with kids:=insAt y.kids k x}) (g:=λy=>{y with kids:=delAt y.kids ((fnd q r).kids.take k).length}) r hr hq (λy hy=>hy)]
 refine kz r hr hq ?_
 simp only
 have e2:insAt (fnd q r).kids k x=(fnd q r).kids.take k++x::(fnd q r).kids.drop k:=rfl
 rw[e2,bO,take_append_drop]
 cases fnd q r;rfl
theorem take_put {u own:U} {i:Idd} {d j:Nat} (hn:u.ids.Nodup) (h1:aF i u=some (own,d,j)) (hp:Par i u own d j):
  U.wth own.id (λy=>{y with kids:=insAt y.kids j (fnd i u)}) (without i u)=u/\fnd own.id (without i u)={own with kids:=delAt own.kids j}/\own.id∈(without i u).ids:=by
 obtain⟨a,x,b,s,hx,hj,hl⟩:=hp.split
 have hfx:fnd i u=x:=aB hl
 subst hj
 have hW:without i u=U.wth own.id (λy=>{y with kids:=delAt y.kids a.length}) u:=by unfold without;rw[h1]
 rw[hW,hfx]
 refine⟨?_,?_,?_⟩
 ·rw[mI (f:=λy=>{y with kids:=delAt y.kids a.length}) (g:=λy=>{y with kids:=insAt y.kids a.length x}) u hn hp.mem (λy hy=>hy)]
  refine kz u hn hp.mem ?_
  simp only
  rw[hp.fnd,s.eq,bO,n8,←s.eq]
  cases own;rfl
 ·rw[jR (f:=λy=>{y with kids:=delAt y.kids a.length}) u hn hp.mem (λ_=>rfl),hp.fnd]
 ·exact jQ hn hp.mem (λ_=>rfl)
def stP (u:U):Bool:=treeOk2 u&& !((if u.kind=0 then u.ids.drop 1 else u.ids).any λx=>decide (x=zId))
def lev (u:U) (q:Idd):Int:=((U.way q u).length:Int)-1
def en (u:U) (q:Idd) (k:Int) (x:U):Int:=
 if stP u=false\/stP x=false\/x.kind=0 then 1
 else if q∉u.ids then 4
 else if nests (fnd q u).kind x.kind=false then 9
 else if k<0\/((fnd q u).kids.length:Int)<k then 3
 else if taken (fnd q u).kids x.kind x.label=true then 10
 else if 64<=(fnd q u).kids.length\/8<lev u q+1+x.dep\/1024<u.cnt+x.cnt then 6
 else if x.ids.any (λy=>decide (y∈u.ids))=true then 5 else 0
def insT (u:U) (q:Idd) (k:Int) (x:U):U×Int:=
 if en u q k x≠0 then (noU,en u q k x)else (U.wth q (λy=>{y with kids:=insAt y.kids k.toNat x}) u,0)
def remT (u:U) (i:Idd):U×Int:=
 if stP u=false then (noU,1)else if i∉u.ids then (noU,4)else if u.id=i then (noU,9)else (without i u,0)
def movT (u:U) (i q:Idd) (k:Int):U×Int:=
 if stP u=false then (noU,1)else if i∉u.ids\/q∉u.ids then (noU,4)
 else if i=u.id\/q∈(fnd i u).ids\/nests (fnd q u).kind (fnd i u).kind=false then (noU,9)
 else if k<0\/((fnd q (without i u)).kids.length:Int)<k then (noU,3)
 else if taken (fnd q (without i u)).kids (fnd i u).kind (fnd i u).label=true then (noU,10)
 else if 64<=(fnd q (without i u)).kids.length\/8<lev (without i u) q+1+(fnd i u).dep then (noU,6)
 else (U.wth q (λy=>{y with kids:=insAt y.kids k.toNat (fnd i u)}) (without i u),0)
def co (u:U) (i:Idd) (s:List UInt8):Bool:=match aF i u with
 |some (p,_,_)=>taken p.kids (fnd i u).kind s
 |none=>false
def relT (u:U) (i:Idd) (s:List UInt8):U×Int:=
 if stP u=false\/br s=false then (noU,1)else if i∉u.ids then (noU,4)else if (fnd i u).kind=0 then (noU,9)
 else if (fnd i u).label=s\/co u i s=true then (noU,10)else (U.wth i (λy=>{y with label:=s}) u,0)
def wrT (u:U) (i:Idd) (l:List Wd) (f:U->U):U×Int:=
 if stP u=false\/(l.any λw=>!bf w.text)=true then (noU,1)else if i∉u.ids then (noU,4)else if (fnd i u).kind=0 then (noU,9)
 else if 256<l.length then (noU,6)else (U.wth i f u,0)
theorem d6 {u:U} (h:Good u) (h0:u.kind=0):stP u=true:=by
 unfold stP treeOk2 idsOk
 simp only[Bool.and_eq_true,decide_eq_true_eq,Bool.or_eq_true,Bool.not_eq_true',any_eq_false,all_eq_true]
 have hz:=h.root.1 h0
 refine⟨⟨h.node,by have:=h.dep;unfold U.dep;omega,by have:=h.cnt;unfold U.cnt;omega,.inr ⟨by rw[decide_eq_true hz,decide_eq_true h0],h.nd⟩⟩,?_⟩
 rw[if_pos h0]
 intro x hx e
 have hn:=h.nd
 rw[U.ids_eq]at hx hn
 simp only[drop_one,tail_cons]at hx
 rw[nodup_cons]at hn
 exact hn.1 (hz ▸ e ▸ hx)
theorem fB {u:U} (h:Good u) (h0:u.kind=0) {i:Idd} (hi:i∈u.ids) (hne:u.id≠i):stP (fnd i u)=true/\(fnd i u).kind≠0:=by
 have hz:=h.root.1 h0
 have hzx:zId∉(fnd i u).ids:=by
  intro hz'
  rw[←hz]at hz'
  obtain⟨y,hy,e⟩:=(eI u h.nd (cR u) hi).2 hz'
  rw[aN rfl,mem_singleton]at hy
  subst hy
  exact hne e
 obtain⟨own,d,j,w1,w2,hp⟩:=bt h.nd hi hne
 obtain⟨a,x,b,s,hx,hj,hl⟩:=hp.split
 have hfx:fnd i u=x:=aB hl
 have hpf:own∈u.flat:=by
  have:=aP u h.nd hp.mem
  rw[hp.fnd]at this;exact this
 have hk:x.kind≠0:=jd (df (h.node own hpf) x (by rw[s.eq];simp))
 have hxf:x∈u.flat:=dM hpf (by rw[s.eq];simp)
 rw[hfx]at hzx ⊢
 have hsub:∀y∈x.flat,y∈u.flat:=dD hxf
 refine⟨?_,hk⟩
 unfold stP treeOk2 idsOk
 simp only[Bool.and_eq_true,decide_eq_true_eq,Bool.or_eq_true,Bool.not_eq_true',any_eq_false,all_eq_true]
 have hxid:x.id≠zId:=λe=>hzx (e ▸ cR x)
 have hnx:x.ids.Nodup:=by have:=fnd_nd u h.nd hi;rwa [hfx]at this
 have hd:=(gb (f:=λy=>y) u h.nd hi).2
 rw[hfx]at hd
 have hc:x.flat.length<=u.flat.length:=by
  obtain⟨l,r,e1,_⟩:=ma (f:=λy=>y) u h.nd hi
  have:=congrArg List.length e1
  simp only[U.all5,length_map,length_append,hfx]at this
  omega
 refine⟨⟨λy hy=>h.node y (hsub y hy),by have:=h.dep;unfold U.dep;omega,by have:=h.cnt;unfold U.cnt;omega,.inr ⟨by rw[decide_eq_false hxid,decide_eq_false hk],hnx⟩⟩,?_⟩
 rw[if_neg hk]
 intro y hy e
 exact hzx (e ▸ hy)
structure Back (u own:U) (i:Idd) (j:Nat):Prop where
 good:Good (without i u)
 kind:(without i u).kind=0
 mem:own.id∈(without i u).ids
 here:fnd own.id (without i u)={own with kids:=delAt own.kids j}
 nest:nests own.kind (fnd i u).kind=true
 le:j<=(delAt own.kids j).length
 free:taken (delAt own.kids j) (fnd i u).kind (fnd i u).label=false
 room:(delAt own.kids j).length<64
 level:lev (without i u) own.id+1+(fnd i u).dep<=8
 cnt:(without i u).cnt+(fnd i u).cnt<=1024
 apart:((fnd i u).ids.any λy=>decide (y∈(without i u).ids))=false
 put:U.wth own.id (λy=>{y with kids:=insAt y.kids j (fnd i u)}) (without i u)=u
theorem back {u own:U} (h:Good u) (h0:u.kind=0) {i:Idd} (hi:i∈u.ids) (hne:u.id≠i) {d j:Nat} (w1:aF i u=some (own,d,j)) (hp:Par i u own d j):Back u own i j:=by
 obtain⟨g1,g2,g3,A,B,_,g5,g6⟩:=cN h hi hne
 obtain⟨p1,p2,p3⟩:=take_put h.nd w1 hp
 obtain⟨a,x,b,s,hx,hj,hl⟩:=hp.split
 have hfx:fnd i u=x:=aB hl
 have hpf:own∈u.flat:=by
  have:=aP u h.nd hp.mem
  rw[hp.fnd]at this;exact this
 have hno:=h.node own hpf
 have hdel:delAt own.kids j=a++b:=by rw[s.eq,hj,bO]
 have hW:without i u=U.wth own.id (λy=>{y with kids:=delAt y.kids j}) u:=by unfold without;rw[w1]
 have hok:=hno
 unfold nodeOk at hok
 simp only[Bool.and_eq_true,decide_eq_true_eq]at hok
 obtain⟨_,⟨_,hap⟩,h64⟩:=hok
 have hl64:a.length+(b.length+1)<=64:=by
  have:=congrArg List.length s.eq
  simp only[length_append,length_cons]at this
  omega
 refine⟨g1,g2.kind.trans h0,p3,p2,?_,?_,?_,?_,?_,?_,?_,p1⟩
 ·rw[hfx];exact df hno x (by rw[s.eq];simp)
 ·rw[hdel,hj,length_append];omega
 ·rw[hfx,hdel]
  unfold Apart at hap
  rw[s.eq,map_append,map_cons]at hap
  unfold taken
  rw[any_eq_false]
  intro y hy e
  simp only[Bool.and_eq_true,decide_eq_true_eq]at e
  have hkey:(y.kind,y.label)=(x.kind,x.label):=by rw[e.1,e.2]
  rw[nodup_append]at hap
  obtain⟨n1,n2,n3⟩:=hap
  rcases mem_append.1 hy with hy|hy
  ·exact n3 _ (mem_map.2 ⟨y,hy,rfl⟩) _ (by simp) hkey
  ·rw[nodup_cons]at n2
   exact n2.1 (hkey ▸ mem_map.2 ⟨y,hy,rfl⟩)
 ·rw[hdel,length_append];omega
 ·have hw:U.way own.id (without i u)=(U.way own.id u).map (U.wth own.id λy=>{y with kids:=delAt y.kids j}):=by
   rw[hW]
   refine jN (j:=own.id) (t:=own.id) (f:=λy=>{y with kids:=delAt y.kids j}) u h.nd (λy hy e=>⟨rfl,?_⟩)
   have hyo:y=own:=node_eq h.nd hp.fnd hp.mem hy e
   subst hyo
   have hn1:y.id∉U.idss y.kids:=(U.nd_kids hp.nd).2
   have hn2:y.id∉U.idss (delAt y.kids j):=idss_del hn1
   rw[(iC _).2 hn1,(iC _).2 hn2]
  have hd:=(gb (f:=λy=>y) u h.nd hi).2
  have hlen:(U.way i u).length=d+2:=by
   have:=congrArg List.length hp.path
   rw[length_append,hp.deep]at this
   simpa using this
  have h8:=h.dep
  unfold lev U.dep
  rw[hw,length_map,hp.deep]
  omega
 ·have hc:=h.cnt
  have e1:=congrArg List.length g5
  have e2:=congrArg List.length g6
  simp only[U.ids,length_map,length_append]at e1 e2
  unfold U.cnt
  omega
 ·have hn:=h.nd
  rw[g5]at hn
  rw[any_eq_false,g6]
  intro y hy e
  simp only[decide_eq_true_eq]at e
  rw[nodup_append]at hn
  obtain⟨_,n2,n3⟩:=hn
  rw[nodup_append]at n2
  rcases mem_append.1 e with e|e
  ·exact n3 y e y (mem_append.2 (.inl hy)) rfl
  ·exact n2.2.2 y hy y e rfl
theorem back_in {u own:U} (h:Good u) (h0:u.kind=0) {i:Idd} (hi:i∈u.ids) (hne:u.id≠i) {j:Nat} (hb:Back u own i j):insT (without i u) own.id j (fnd i u)=(u,0):=by
 obtain⟨x1,x2⟩:=fB h h0 hi hne
 have hf:en (without i u) own.id j (fnd i u)=0:=by
  unfold en
  rw[hb.here]
  simp only
  rw[if_neg (by rw[d6 hb.good hb.kind,x1];simp[x2]),if_neg (by simp[hb.mem]),if_neg (by rw[hb.nest];simp),if_neg (by have:=hb.le;omega),if_neg (by simp[hb.free]),if_neg (by have:=hb.room;have:=hb.level;have:=hb.cnt;omega),if_neg (by simp[hb.apart])]
 unfold insT
 rw[if_neg (by rw[hf];simp),Int.toNat_natCast,hb.put]
structure Pt where
 kind:Int
 at_:Int
 id:Idd
 parent:Idd
 unit:U
 label:List UInt8
 words:List Wd
def zPt:Pt:=⟨0,0,zId,zId,noU,[],[]⟩
def mkPt (u:U) (d:Dd) (i:Idd):Pt:=
 if d.it.kind=0 then ⟨0,0,⟨d.act,d.item,1⟩,zId,noU,[],[]⟩
 else if d.it.kind=1 then ⟨1,(parR i u).2.2,i,(parR i u).1.id,fnd i u,[],[]⟩
 else if d.it.kind=2\/d.it.kind=3 then ⟨4,0,i,zId,noU,[],(fnd i u).words⟩
 else if d.it.kind=4 then ⟨5,0,i,zId,noU,[],(fnd i u).head⟩
 else if d.it.kind=5 then ⟨3,0,i,zId,noU,(fnd i u).label,[]⟩
 else ⟨2,(parR i u).2.2,i,(parR i u).1.id,noU,[],[]⟩
def invP (u:U) (d:Dd):Pt×Int:=if (doP u d).2≠0 then (zPt,(doP u d).2)else (mkPt u d (one u d.it.at_).1,0)
def revP (v:U) (p:Pt):U×Int:=
 if p.kind=0 then remT v p.id
 else if p.kind=1 then insT v p.parent p.at_ p.unit
 else if p.kind=2 then movT v p.id p.parent p.at_
 else if p.kind=3 then relT v p.id p.label
 else if p.kind=4 then wrT v p.id p.words (λy=>{y with words:=p.words})
 else if p.kind=5 then wrT v p.id p.words (λy=>{y with head:=p.words})
 else (noU,1)
theorem goes_in {u:U} (h:Good u) {i t:Idd} (hi:i∈u.ids) (hne:u.id≠i) (ht:t∈u.ids) {wh:Int} (h0:0<=wh) (h3:wh<=3) {q:Idd} {k:Nat} (e:dY u i t wh=some (q,k)):q∈(without i u).ids:=by
 obtain⟨g1,g2,g3,A,B,hA,e1,e2⟩:=cN h hi hne
 obtain⟨own,dO,j,w1,w2,hp⟩:=bt h.nd hi hne
 obtain⟨a,x,b,s,hx,hj,hl⟩:=hp.split
 have hfx:fnd i u=x:=aB hl
 have hqu:q∈u.ids/\q∉(fnd i u).ids:=by
  unfold dY at e
  rw[w1]at e
  simp only at e
  split at e
  ·cases e
  ·rename_i hc
   rw[not_or]at hc
   split at e
   ·injection e with e;injection e with e3 e4
    subst e3
    refine⟨hp.mem,?_⟩
    rw[hfx]
    have:=(U.nd_kids hp.nd).2
    rw[s.eq,U.idss_app,U.idss_cons]at this
    exact λhm=>this (mem_append.2 (.inr (mem_append.2 (.inl hm))))
   ·rename_i hti
    obtain⟨⟨q',k'⟩,e5,e6⟩:=Option.map_eq_some_iff.1 e
    injection e6 with e7 e8
    subst e7
    have hr:¬(besides wh=true/\t=u.id):=by
     rintro⟨r1,r2⟩
     have hh:wh=2\/wh=3:=by simpa[besides]using r1
     unfold spot at e5
     rw[cB r2.symm]at e5
     rcases hh with hh|hh<;>simp[hh]at e5
    obtain⟨P,dp,k2,hg⟩:=jP h.nd ht h0 h3 hr
    have:=hg.spot
    rw[e5]at this
    injection this with this
    injection this with e9 e10
    simp only at e9 ⊢
    rw[e9]
    refine⟨hg.mem,hg.out i hi λhm=>?_⟩
    exact hc.1 ((gl u h.nd ht hi).2 ⟨hti,hm⟩)
 rw[e2]
 have:=hqu.1
 rw[e1]at this
 rcases mem_append.1 this with hm|hm
 ·exact mem_append.2 (.inl hm)
 ·rcases mem_append.1 hm with hm|hm
  ·exact absurd hm hqu.2
  ·exact mem_append.2 (.inr hm)
theorem undo_ins {u:U} (h:Good u) (h0:u.kind=0) {d:Dd} (hk:d.it.kind=0) (hok:(doP u d).2=0) (ha:1<=d.act):remT (doP u d).1 ⟨d.act,d.item,1⟩=(u,0):=by
 obtain⟨hv,hroot⟩:=fz h d
 have e:=hok
 unfold doP at hok hv hroot ⊢
 split at hok
 ·cases hok
 rename_i c1
 rw[if_neg c1]at hv hroot ⊢
 have hm:d.it.may=true:=by cases h:d.it.may<;>simp_all
 split at hok
 ·rename_i c2;exact absurd hok c2
 rename_i c2
 rw[if_neg c2]at hv hroot ⊢
 have hi:=bZ (u:=u) (p:=d.it.at_) (by simpa using c2)
 rw[if_pos hk]at hv hroot ⊢
 obtain⟨s1,s2,s3,s4,s5⟩:=je d.it.unit d.act d.item (kD hm hk)
 have hxid:(cz d.it.unit d.act d.item).id=⟨d.act,d.item,1⟩:=by
  have:=s1
  rw[U.ids_eq]at this
  have hp:=d.it.unit.flat_pos
  cases hl:d.it.unit.flat.length with
  |zero=>omega
  |succ n=>
   rw[hl]at this
   simp only[idRow,range_succ_eq_map,map_cons]at this
   injection this with t1 _
 unfold insP at hok hv hroot ⊢
 rcases e1:spot u (one u d.it.at_).1 d.it.wh with _|⟨q,k⟩
 ·simp only[e1]at hok;cases hok
 ·simp only[e1]at hok hv hroot ⊢
  split at hok
  ·rename_i c;exact absurd hok c
  rename_i c3
  rw[if_neg c3]at hv hroot ⊢
  split at hok
  ·cases hok
  rename_i c4
  rw[if_neg c4]at hv hroot ⊢
  split at hok
  ·cases hok
  rename_i c5
  rw[if_neg c5]at hv hroot ⊢
  simp only at hv hroot ⊢
  have hq:=iy h.nd hi e1
  obtain⟨p1,p2,p3⟩:=ng h.nd hq hv.nd
  rw[hxid]at p1 p2 p3
  have hvk:=hroot.kind.trans h0
  have hvi:(U.wth q (λy=>{y with kids:=insAt y.kids k (cz d.it.unit d.act d.item)}) u).id≠⟨d.act,d.item,1⟩:=by
   rw[hroot.id,h.root.1 h0]
   intro e
   injection e with e _ _
   omega
  unfold remT
  rw[if_neg (by rw[d6 hv hvk];simp),if_neg (by simp[p3]),if_neg hvi,p1]
theorem nF {u:U} (hn:u.ids.Nodup) {i:Idd} (hi:i∈u.ids) {f g:U->U} (hf:∀y,(f y).id=y.id) (hg:g (f (fnd i u))=fnd i u):U.wth i g (U.wth i f u)=u:=by
 rw[mI (f:=f) (g:=g) u hn hi (λy hy=>by rw[hf];exact hy)]
 exact kz (f:=λy=>g (f y)) u hn hi hg
theorem row_words {l:List Wd} (h:aU l=true):l.length<=256/\(l.any λw=>!bf w.text)=false:=by
 unfold aU at h
 simp only[Bool.and_eq_true,decide_eq_true_eq,all_eq_true]at h
 refine⟨by omega,?_⟩
 rw[any_eq_false]
 intro w hw e
 have:=h.2 w hw
 unfold wdOk at this
 rw[this]at e
 exact absurd e (by decide)
theorem undo_wr {u:U} (h:Good u) (h0:u.kind=0) {i:Idd} (hi:i∈u.ids) (hne:u.id≠i) {f g:U->U} {l:List Wd} (hf:∀y,(f y).id=y.id) (hfk:∀y,(f y).kind=y.kind)
  (hg:g (f (fnd i u))=fnd i u) (hv:Good (U.wth i f u)) (hr:Root u (U.wth i f u)) (hl:aU l=true):wrT (U.wth i f u) i l g=(u,0):=by
 obtain⟨l1,l2⟩:=row_words hl
 have hm:i∈(U.wth i f u).ids:=jQ h.nd hi hf
 have hk:=(fB h h0 hi hne).2
 unfold wrT
 rw[if_neg (by rw[d6 hv (hr.kind.trans h0),l2];simp),if_neg (by simp[hm]),if_neg (by rw[jR u h.nd hi hf,hfk];exact hk),if_neg (by omega),nF h.nd hi hf hg]
theorem undo_del {u:U} (h:Good u) (h0:u.kind=0) {i:Idd} (hi:i∈u.ids) (hne:u.id≠i):insT (without i u) (parR i u).1.id (parR i u).2.2 (fnd i u)=(u,0):=by
 obtain⟨own,d,j,w1,w2,hp⟩:=bt h.nd hi hne
 rw[w2]
 exact back_in h h0 hi hne (back h h0 hi hne w1 hp)
theorem par_map {u v:U} {i:Idd} {g:U->U} (hw:U.way i v=(U.way i u).map g) {own:U} {d j:Nat} (w:aF i u=some (own,d,j)):∃j',aF i v=some (g own,d,j'):=by
 unfold aF at w ⊢
 rw[hw,←map_reverse]
 cases hl:(U.way i u).reverse with
 |nil=>rw[hl]at w;cases w
 |cons a l=>
  cases l with
  |nil=>rw[hl]at w;cases w
  |cons b r=>
   rw[hl]at w
   simp only[Option.some.injEq,Prod.mk.injEq]at w
   obtain⟨e1,e2,_⟩:=w
   subst e1
   simp only[map_cons,length_map,e2]
   exact⟨_,rfl⟩
theorem undo_rel {u:U} (h:Good u) (h0:u.kind=0) {i:Idd} (hi:i∈u.ids) (hne:u.id≠i) {s:List UInt8} (hs:taken (parR i u).1.kids (fnd i u).kind s=false)
  (hv:Good (U.wth i (λy=>{y with label:=s}) u)) (hr:Root u (U.wth i (λy=>{y with label:=s}) u)):relT (U.wth i (λy=>{y with label:=s}) u) i (fnd i u).label=(u,0):=by
 obtain⟨own,d,j,w1,w2,hp⟩:=bt h.nd hi hne
 rw[w2]at hs
 simp only at hs
 have hm:i∈(U.wth i (λy=>{y with label:=s}) u).ids:=jQ h.nd hi (λ_=>rfl)
 have hk:=(fB h h0 hi hne).2
 have hfx:fnd i (U.wth i (λy=>{y with label:=s}) u)={fnd i u with label:=s}:=jR u h.nd hi (λ_=>rfl)
 have hlab:=(fp (h.node _ (aP u h.nd hi)) hk).1
 obtain⟨a,x,b,sp,hx,hj,hl⟩:=hp.split
 have hxx:fnd i u=x:=aB hl
 have hmem:x∈own.kids:=by rw[sp.eq];simp
 have hns:(fnd i u).label≠s:=by
  intro e
  unfold taken at hs
  rw[any_eq_false]at hs
  exact hs x hmem (by rw[hxx,←e,hxx];simp)
 have hown:own∈u.flat:=by
  have:=aP u h.nd hp.mem
  rw[hp.fnd]at this;exact this
 have htk:co (U.wth i (λy=>{y with label:=s}) u) i (fnd i u).label=false:=by
  have hw:U.way i (U.wth i (λy=>{y with label:=s}) u)=(U.way i u).map (U.wth i λy=>{y with label:=s}):=jN (j:=i) (t:=i) (f:=λy=>{y with label:=s}) u h.nd (λy hy e=>⟨rfl,rfl⟩)
  obtain⟨j',e⟩:=par_map hw w1
  unfold co
  rw[e]
  simp only
  rw[hfx]
  have hoi:own.id≠i:=by
   intro e2
   have hnd:=(U.nd_kids hp.nd).2
   rw[e2]at hnd
   exact hnd (by rw[sp.eq,U.idss_app,U.idss_cons,←hx];exact mem_append.2 (.inr (mem_append.2 (.inl (cR x)))))
  rw[Split.wth hoi sp]
  simp only
  rw[bA hx]
  have hok:=h.node own hown
  unfold nodeOk at hok
  simp only[Bool.and_eq_true,decide_eq_true_eq]at hok
  obtain⟨_,⟨_,hap⟩,_⟩:=hok
  unfold Apart at hap
  rw[sp.eq,map_append,map_cons,nodup_append]at hap
  obtain⟨n1,n2,n3⟩:=hap
  unfold taken
  rw[any_eq_false,hxx]
  rw[hxx]at hns
  intro y hy e2
  simp only[Bool.and_eq_true,decide_eq_true_eq]at e2
  have hkey:(y.kind,y.label)=(x.kind,x.label):=by rw[e2.1,e2.2]
  rcases mem_append.1 hy with hy|hy
  ·exact n3 _ (mem_map.2 ⟨y,hy,rfl⟩) _ (by simp) hkey
  ·rcases mem_cons.1 hy with hy|hy
   ·subst hy
    exact hns e2.2.symm
   ·rw[nodup_cons]at n2
    exact n2.1 (hkey ▸ mem_map.2 ⟨y,hy,rfl⟩)
 unfold relT
 rw[if_neg (by rw[d6 hv (hr.kind.trans h0),hlab];simp),if_neg (by simp[hm]),if_neg (by rw[hfx];exact hk),if_neg (by rw[hfx,htk];simp only;rintro(e|e);exact hns e.symm;cases e)]
 rw[nF (f:=λy=>{y with label:=s}) (g:=λy=>{y with label:=(fnd i u).label}) h.nd hi (λ_=>rfl) (by cases fnd i u;rfl)]
theorem pc {t:Idd} {l:List U} {k:Nat} {x:U}:t∈U.idss (insAt l k x)↔t∈U.idss l\/t∈x.ids:=by
 have e:insAt l k x=l.take k++x::l.drop k:=rfl
 have e2:U.idss l=U.idss (l.take k)++U.idss (l.drop k):=by rw[←U.idss_app,take_append_drop]
 rw[e,e2,U.idss_app,U.idss_cons]
 simp only[mem_append]
 constructor
 ·rintro(h|h|h)
  ·exact .inl (.inl h)
  ·exact .inr h
  ·exact .inl (.inr h)
 ·rintro((h|h)|h)
  ·exact .inl h
  ·exact .inr (.inr h)
  ·exact .inr (.inl h)
theorem ins_mem {r:U} (hn:r.ids.Nodup) {q:Idd} (hq:q∈r.ids) {k:Nat} {x:U} {t:Idd} (ht:t∈r.ids):t∈(U.wth q (λy=>{y with kids:=insAt y.kids k x}) r).ids:=by
 obtain⟨l,r',e1,e2⟩:=gO (f:=λy=>{y with kids:=insAt y.kids k x}) r hn hq
 rw[e1]at ht
 rw[e2]
 rcases mem_append.1 ht with h|h
 ·exact mem_append.2 (.inl h)
 rcases mem_append.1 h with h|h
 ·refine mem_append.2 (.inr (mem_append.2 (.inl ?_)))
  rw[U.ids_eq]at h ⊢
  simp only[mem_cons]at h ⊢
  rcases h with h|h
  ·exact .inl h
  ·exact .inr (pc.2 (.inl h))
 ·exact mem_append.2 (.inr (mem_append.2 (.inr h)))
theorem ways_ins {t:Idd} {l:List U} {k:Nat} {x:U} (h:t∉x.ids):U.ways t (insAt l k x)=U.ways t l:=by
 have e:insAt l k x=l.take k++x::l.drop k:=rfl
 rw[e,←nJ h,take_append_drop]
theorem ml {r:U} (hn:r.ids.Nodup) {q:Idd} (hq:q∈r.ids) {k:Nat} {x:U} {t:Idd} (ht:t∈r.ids) (hx:t∉x.ids):(fnd t (U.wth q (λy=>{y with kids:=insAt y.kids k x}) r)).kind=(fnd t r).kind:=by
 have hw:U.way t (U.wth q (λy=>{y with kids:=insAt y.kids k x}) r)=(U.way t r).map (U.wth q λy=>{y with kids:=insAt y.kids k x}):=
  jN (j:=q) (t:=t) (f:=λy=>{y with kids:=insAt y.kids k x}) r hn (λy hy e=>⟨rfl,ways_ins hx⟩)
 obtain⟨y,hy⟩:∃y,(U.way t r).getLast?=some y:=by
  cases hl:(U.way t r).getLast? with
  |some y=>exact⟨y,rfl⟩
  |none=>
   rw[getLast?_eq_none_iff]at hl
   exact absurd ht ((cO r).1 hl)
 have e1:fnd t r=y:=aB hy
 have e2:fnd t (U.wth q (λy=>{y with kids:=insAt y.kids k x}) r)=U.wth q (λy=>{y with kids:=insAt y.kids k x}) y:=by
  refine aB ?_
  rw[hw,getLast?_map,hy];rfl
 rw[e1,e2]
 exact eM (f:=λy=>{y with kids:=insAt y.kids k x}) U.kind (λ_=>rfl) (λ_ _=>rfl) y
theorem undo_mov {u:U} (h:Good u) (h0:u.kind=0) {i:Idd} (hi:i∈u.ids) (hne:u.id≠i) {q:Idd} (hq:q∈(without i u).ids) {k:Nat} {v:U} (hve:v=U.wth q (λy=>{y with kids:=insAt y.kids k (fnd i u)}) (without i u))
  (hv:Good v) (hr:Root u v):movT v i (parR i u).1.id (parR i u).2.2=(u,0):=by
 obtain⟨own,d,j,w1,w2,hp⟩:=bt h.nd hi hne
 rw[w2]
 simp only
 have hb:=back h h0 hi hne w1 hp
 have hgn:=hb.good.nd
 have hfi:(fnd i u).id=i:=(cS u h.nd hi).1
 obtain⟨p1,p2,p3⟩:=ng (x:=fnd i u) hgn hq (hve ▸ hv.nd)
 rw[←hve,hfi]at p1 p2 p3
 have hov:own.id∈v.ids:=hve ▸ ins_mem hgn hq hb.mem
 have hox:own.id∉(fnd i u).ids:=by
  intro e
  have:=hb.apart
  rw[any_eq_false]at this
  exact this _ e (by simp[hb.mem])
 have hkind:(fnd own.id v).kind=own.kind:=by
  rw[hve,ml hgn hq hb.mem hox,hb.here]
 unfold movT
 rw[if_neg (by rw[d6 hv (hr.kind.trans h0)];simp),if_neg (by simp[p3,hov]),p1,p2,hb.here]
 simp only
 rw [if_neg (by rw [hkind, hb.nest]; rintro (e | e | e)
                · exact hne (hr.id ▸ e.symm)
                · exact hox e
                · cases e), if_neg (by have := hb.le; omega), if_neg (by simp [hb.free]), if_neg (by have := hb.room; have := hb.level; omega), Int.toNat_natCast, hb.put]
end Go.Av
