/-
  UNDO, walks 4b: whether a unit may be put in.
-/
import Derived.Test.YtnoakpkjccigoaaGreatDoorXM27toXV4
import Derived.Test.YtnoakpkjccigoaaGreatDoorXV3toXM20
import Derived.Test.YtnoakpkjccigoaaGreatDoorXU7toXN0
namespace Go.Av
open Go Go.RowKit Go.Proofs List
set_option linter.unusedSimpArgs false
set_option linter.unusedVariables false
section
variable (G:Glob)
set_option maxHeartbeats 8000000 in
theorem f117 (hG:GOk G) (u:U) (hst:stP u=true) (hu:u.Short) (hcu:u.flat.length<=1000000) (q:Idd) (k:Int) (x:U) (hx:x.Short) (hcx:x.flat.length<=1000000):
  Pure G Tryz.prog 117 [.agg u.cs,.agg q.cs,.int .i64 k,.agg x.cs] (.int .i64 (en u q k x)):=by
 have hS1:=f111 G hG u hu
 have hS2:=f111 G hG x hx
 have hF:=cj G q u hu
 rw[hst]at hS1
 have hps:=(fb hu q).1.kids
 have hbad:stP x=false\/x.kind=0->en u q k x=1:=λh=>by unfold en;rw[if_pos (.inr h)]
 have hfst:=λf1 f2 f3 f4 f5 f6=>oo u q k x f1 f2 f3 f4 f5 f6 hst
 obtain⟨sx,hsx⟩:∃b,stP x=b:=⟨_,rfl⟩
 rw[hsx]at hS2 hbad hfst
 simp only[Idd.cs]at hF
 have c3:=λb=>f207 G b (hasP q u)
 have c4:=λa b=>f208 G hG a b (fnd q u) x
 have c5:=λa b=>f209 G a b k (fnd q u)
 have c6:=λa b=>f210 G a b (fnd q u) x (by omega)
 have c2:=λa b c d=>f206 G a b c d (fnd q u) u x q hu hcu hx hcx (by omega)
 have c1:=λa b=>f204 G a b u x hu hx
 generalize en u q k x=F at*
 obtain⟨P,hP⟩:∃P,fnd q u=P:=⟨_,rfl⟩
 rw[hP]at hF hps c4 c5 c6 c2
 simp only[hP]at hfst
 rw[U.cs_eq P]at hF c4 c5 c6 c2
 rw[U.cs_eq u]at hS1 hF c1 c2 ⊢
 rw[U.cs_eq x]at hS2 c1 c2 c4 c6 ⊢
 simp only[Idd.cs]at c2
 refine Pure.w c117 λR hR=>?_
 unfold s117 r117
 cases sx with
 |false=>
  rw[hbad (.inl rfl)]at hR
  (repeat' (first|(with_reducible (first|refine ab (λh=>?_) (λh=>?_)|refine ai (λh=>?_) (λh=>?_)|refine aj (λh=>?_) (λh=>?_))<;>(try simp only[Da,Db,Dc,Dw,De,Df,Dg,Dh]at h))|(with_reducible refine AI (by omega) ?_)|(with_reducible first|refine aa hS1 ?_|refine aa hS2 ?_)|simp only[EVz,seval,↓reduceIte,EV6,EV7,hne]|simp only[EVz,seval,↓reduceIte,EV6,EV7]|(with_reducible intro blk hblk;(try(have hnx:=hblk;simp only[EVK]at hnx;first|(have hne:=AI hnx hne)|(have hne:=hnx))))|(with_reducible refine ae ?_ ?_)|(with_reducible refine af ?_)|(exfalso;omega)))
  all_goals exact RQ hR
 |true=>
  by_cases h0:x.kind=0
  ·rw[hbad (.inr h0)]at hR
   have e0:decide (x.kind=0)=true:=decide_eq_true h0
   (repeat' (first|(with_reducible (first|refine ab (λh=>?_) (λh=>?_)|refine ai (λh=>?_) (λh=>?_)|refine aj (λh=>?_) (λh=>?_))<;>(try simp only[Da,Db,Dc,Dw,De,Df,Dg,Dh]at h))|(with_reducible refine AI (by omega) ?_)|(with_reducible first|refine aa hS1 ?_|refine aa hS2 ?_)|simp only[EVz,seval,↓reduceIte,EV6,EV7,e0,hne]|simp only[EVz,seval,↓reduceIte,EV6,EV7,e0]|(with_reducible intro blk hblk;(try(have hnx:=hblk;simp only[EVK]at hnx;first|(have hne:=AI hnx hne)|(have hne:=hnx))))|(with_reducible refine ae ?_ ?_)|(with_reducible refine af ?_)|(exfalso;omega)))
   all_goals exact RQ hR
  ·have hfst:=λf1 f2 f3 f4 f5 f6=>hfst f1 f2 f3 f4 f5 f6 rfl h0
   clear hbad
   have e0:decide (x.kind=0)=false:=decide_eq_false h0
   (repeat' (first|(with_reducible (first|refine ab (λh=>?_) (λh=>?_)|refine ai (λh=>?_) (λh=>?_)|refine aj (λh=>?_) (λh=>?_))<;>(try simp only[Da,Db,Dc,Dw,De,Df,Dg,Dh]at h))|(with_reducible refine AI (by omega) ?_)|(with_reducible first|refine aa hS1 ?_|refine aa hS2 ?_|refine aa hF ?_)|simp only[EVz,seval,↓reduceIte,EV6,EV7,e0,hne]|simp only[EVz,seval,↓reduceIte,EV6,EV7,e0]|(with_reducible intro blk hblk;(try(have hnx:=hblk;simp only[EVK]at hnx;first|(have hne:=AI hnx hne)|(have hne:=hnx))))|(with_reducible refine ae ?_ ?_)|(with_reducible refine af ?_)|(refine⟨[[.sc _,.int .i64 _],[.sc _,.int .i64 _],[.sc _,.int .i64 _],[.sc _,.int .i64 _],[.sc _,.int .i64 _],[.sc _,.int .i64 _]],rfl,(by simp),rfl,?_⟩)|(exfalso;omega)))
   refine bG G (l:=[(_,!hasP q u,4),(_,!nests P.kind x.kind,9),(_,(decide (k<0)||decide ((P.kids.length:Int)<k)),3),(_,taken P.kids x.kind x.label,10),(_,(decide (64<=(P.kids.length:Int))||(decide (8<((anc q u).length:Int)+1+x.dep)||decide (1024<u.cnt+x.cnt))),6),(_,x.ids.any (λy=>hasP y u),5)]) rfl (by simp) (λy hy=>?_) ?_
   ·simp only[mem_cons,not_mem_nil,or_false]at hy
    rcases hy with rfl|rfl|rfl|rfl|rfl|rfl
    ·exact⟨_,(by refine⟨?_,λhn=>?_⟩;(repeat(first|exact aM|(refine aD (by repeat(first|exact mem_cons_self|refine mem_cons_of_mem _ ?_)) ?_)));(simp only[Store.keys,map_cons,map_nil,nodup_cons,mem_cons,not_mem_nil,or_false,not_or,not_false_eq_true,true_and,nodup_nil,and_true,@eq_comm Nat]at hn ⊢ <;>simp only[hn,not_false_eq_true,and_self])),_,_,_,rfl,c3 _⟩
    ·exact⟨_,(by refine⟨?_,λhn=>?_⟩;(repeat(first|exact aM|(refine aD (by repeat(first|exact mem_cons_self|refine mem_cons_of_mem _ ?_)) ?_)));(simp only[Store.keys,map_cons,map_nil,nodup_cons,mem_cons,not_mem_nil,or_false,not_or,not_false_eq_true,true_and,nodup_nil,and_true,@eq_comm Nat]at hn ⊢ <;>simp only[hn,not_false_eq_true,and_self])),_,_,_,rfl,c4 _ _⟩
    ·exact⟨_,(by refine⟨?_,λhn=>?_⟩;(repeat(first|exact aM|(refine aD (by repeat(first|exact mem_cons_self|refine mem_cons_of_mem _ ?_)) ?_)));(simp only[Store.keys,map_cons,map_nil,nodup_cons,mem_cons,not_mem_nil,or_false,not_or,not_false_eq_true,true_and,nodup_nil,and_true,@eq_comm Nat]at hn ⊢ <;>simp only[hn,not_false_eq_true,and_self])),_,_,_,rfl,c5 _ _⟩
    ·exact⟨_,(by refine⟨?_,λhn=>?_⟩;(repeat(first|exact aM|(refine aD (by repeat(first|exact mem_cons_self|refine mem_cons_of_mem _ ?_)) ?_)));(simp only[Store.keys,map_cons,map_nil,nodup_cons,mem_cons,not_mem_nil,or_false,not_or,not_false_eq_true,true_and,nodup_nil,and_true,@eq_comm Nat]at hn ⊢ <;>simp only[hn,not_false_eq_true,and_self])),_,_,_,rfl,c6 _ _⟩
    ·exact⟨_,(by refine⟨?_,λhn=>?_⟩;(repeat(first|exact aM|(refine aD (by repeat(first|exact mem_cons_self|refine mem_cons_of_mem _ ?_)) ?_)));(simp only[Store.keys,map_cons,map_nil,nodup_cons,mem_cons,not_mem_nil,or_false,not_or,not_false_eq_true,true_and,nodup_nil,and_true,@eq_comm Nat]at hn ⊢ <;>simp only[hn,not_false_eq_true,and_self])),_,_,_,rfl,c2 _ _ _ _⟩
    ·exact⟨_,(by refine⟨?_,λhn=>?_⟩;(repeat(first|exact aM|(refine aD (by repeat(first|exact mem_cons_self|refine mem_cons_of_mem _ ?_)) ?_)));(simp only[Store.keys,map_cons,map_nil,nodup_cons,mem_cons,not_mem_nil,or_false,not_or,not_false_eq_true,true_and,nodup_nil,and_true,@eq_comm Nat]at hn ⊢ <;>simp only[hn,not_false_eq_true,and_self])),_,_,_,rfl,c1 _ _⟩
   ·rw[hfst]
    (repeat' (first|(with_reducible (first|refine ab (λh=>?_) (λh=>?_)|refine ai (λh=>?_) (λh=>?_)|refine aj (λh=>?_) (λh=>?_))<;>(try simp only[Da,Db,Dc,Dw,De,Df,Dg,Dh]at h))|(with_reducible refine AI (by omega) ?_)|simp only[EVz,seval,↓reduceIte,EV6,EV7,hne]|simp only[EVz,seval,↓reduceIte,EV6,EV7]|(with_reducible intro blk hblk;(try(have hnx:=hblk;simp only[EVK]at hnx;first|(have hne:=AI hnx hne)|(have hne:=hnx))))|(with_reducible refine ae ?_ ?_)|(with_reducible refine af ?_)|(exfalso;omega)))
    all_goals exact RQ hR
end
theorem Pure.wL {G:Glob} {P:Program} {k:Nat} {g:List Nat} {ts:List (Nat×Option (Bool×Nat))} {s:SCode} {args:List AV} {r:AV} (hk:fnAt P k g=some (ts,s))
  (h:∀R:AV->Store->Prop,(∀x σ,LeRep x r->RET x σ R)->W G P s (retQ ts R) (cL 0 args) [] ⟨⟩):Pure G P k args r:=
 ag.toPure (R:=λx _=>LeRep x r) (ag.w hk (h _ λx σ hx=>⟨x,[],AVle.rfl' _,SubN.nil _,hx⟩)) (λ_ _ h=>h)
theorem le_noU:LeRep (.agg zU) (.agg noU.cs):=by
 refine LeRep.agg ?_
 rw[U.cs_eq]
 unfold zU noU
 repeat' first
  |exact LeReps.nil
  |refine LeReps.cons ?_ ?_
 all_goals first|exact LeRep.refl _|exact LeRep.nil
section
variable (G:Glob)
end
theorem SubN.ins4 {t a b c d:Nat×AObj} {κ:Store}:SubN ((κ++[t])++[a,b,c,d]) (t::a::b::c::d::κ):=by
 have e:(κ++[t])++[a,b,c,d]=κ++[t,a,b,c,d]:=by simp
 rw[e]
 exact SubN.perm (perm_append_comm (l₁:=κ) (l₂:=[t,a,b,c,d]))
theorem SubN.ins4' {t a b c d:Nat×AObj} {κ:Store}:SubN (a::b::c::d::κ) ((κ++[t])++[a,b,c,d]):=by
 have e:(κ++[t])++[a,b,c,d]=κ++[t,a,b,c,d]:=by simp
 rw[e]
 exact SubN.trans (SubN.tail (SubN.refl _) t) (SubN.perm (perm_append_comm (l₁:=[t,a,b,c,d]) (l₂:=κ)))
theorem SubN.back2 {a b c d:Nat×AObj} {κ:Store}:SubN (κ++[c,d]) (a::b::c::d::κ):=
 SubN.tail (SubN.tail (SubN.perm (perm_append_comm (l₁:=κ) (l₂:=[c,d]))) _) _
theorem SubN.back1 {a b c:Nat×AObj} {κ:Store}:SubN (κ++[c]) (a::b::c::κ):=
 SubN.tail (SubN.tail (SubN.perm (perm_append_comm (l₁:=κ) (l₂:=[c]))) _) _
theorem SubN.pull3 {a b c:Nat×AObj} {κ σ:Store}:SubN (a::b::c::(κ++σ)) (κ++a::b::c::σ):=SubN.pullL (l:=[a,b,c])
theorem SubN.del3 {a b c:Nat×AObj} {κ:Store}:SubN (κ++[a,b,c]) (a::b::c::κ):=by
 exact SubN.perm (perm_append_comm (l₁:=κ) (l₂:=[a,b,c]))
theorem SubN.del3' {a b c:Nat×AObj} {κ:Store}:SubN (a::b::c::κ) (κ++[a,b,c]):=SubN.perm (perm_append_comm (l₁:=[a,b,c]) (l₂:=κ))
section
variable (G:Glob)
theorem f119 (k:Int) (x:U):ag G Tryz.prog 119 [.int .i64 k,.agg x.cs] [] (λr σ=>∃a b,r= .sc (.func (.func 212) #[] #[.pointer (some ⟨a,0,none⟩),.pointer (some ⟨b,0,none⟩)])/\σ=[(b,.cells 27 x.cs),(a,.cells 3 [.int .i64 k])]):=by
 refine ag.w c119 ?_
 unfold s119 r119
 rw[U.cs_eq x]
 (repeat' (first|simp only[EVz,seval,↓reduceIte,EV6,EV7]|(with_reducible intro blk hblk;(try(have hnx:=hblk;simp only[EVK]at hnx;first|(have hne:=AI hnx hne)|(have hne:=hnx))))|fail))
 all_goals exact RET.mk (SubN.refl _) ⟨_,_,rfl,rfl⟩
set_option maxHeartbeats 4000000 in
theorem v212 (a b j:Nat) (y x:U) (hj:j<=x.kids.length) (hl:x.kids.length<1000000) (hy:y.Short):
  iV G (.func (.func 212) #[] #[.pointer (some ⟨a,0,none⟩),.pointer (some ⟨b,0,none⟩)]) (λz=>{z with kids:=insAt z.kids j y}) [(b,.cells 27 y.cs),(a,.cells 3 [.int .i64 j])] x:=by
 have hCo:=f116 G y hy
 have hCl:=f203 G (x.kids.map U.cs) (dZ _) (by rw[length_map];omega)
 have hmd:dL (x.kids.map U.cs) j y.cs=(insAt x.kids j y).map U.cs:=by unfold dL insAt;rw[map_append,map_cons,map_take,map_drop]
 have hC:=λv κ ho bo=>f155 G (x.kids.map U.cs) v κ ho j (by rw[length_map];exact hj) (by rw[length_map];exact hl) bo y.cs (U.cs_len y)
 rw[hmd]at hC
 have hyl:=U.cs_len y
 refine⟨_,_,_,rfl,?_⟩
 show ag G Tryz.prog 212 [.agg x.cs,.sc (.pointer (some ⟨a,0,none⟩)),.sc (.pointer (some ⟨b,0,none⟩))] _ _
 refine ag.freezeK (R1:=λσ'=>σ'=[(b,.cells 27 y.cs),(a,.cells 3 [.int .i64 j])]) ?_
 refine ag.wn c212 λhnd=>?_
 have q1:¬b=a:=by simp[Store.keys]at hnd;exact hnd
 have q2:¬a=b:=λe=>q1 e.symm
 unfold s212 r212
 obtain⟨ys,hys⟩:∃ys,y.cs=ys:=⟨_,rfl⟩
 have hfrz:=λv κ (ho:bD 27 8 ((insAt x.kids j y).map U.cs) v κ)=>U.csv_frz (x:={x with kids:=insAt x.kids j y}) ho
 rw[hys]at hCo hC hyl ⊢
 have hyt:ys.take 8=ys:=take_of_length_le (by omega)
 generalize (insAt x.kids j y).map U.cs=rows2 at*
 rw[U.cs_eq x]
 (repeat' (first|(with_reducible refine aa hCo ?_)|simp only[EVz,seval,↓reduceIte,EV6,EV7,q1,q2,hyl,hyt,length_map,hne]|simp only[EVz,seval,↓reduceIte,EV6,EV7,q1,q2,hyl,hyt,length_map]|(with_reducible intro blk hblk;(try(have hnx:=hblk;simp only[EVK]at hnx;first|(have hne:=AI hnx hne)|(have hne:=hnx))))|(with_reducible refine ae ?_ ?_)|(with_reducible refine af ?_)|(refine aT [] ((_,_)::(_,_)::(_,_)::(_,_)::[]) hCl.v (ax.rfl' _) (SubN.refl _) (λv κ ho hnd=>⟨_,SubN.pull4,?_⟩);have hC:=hC v κ ho;have hv:=ho;obtain⟨base,cap,rfl,_⟩:=hv;simp only[length_map]at ho hC)|(refine⟨[ys],rfl,(by intro r hr;simp only[mem_singleton]at hr;subst hr;exact hyl),(by simp),?_⟩)|(refine aT (κ++[(_,_)]) [(_,_),(_,_),(_,_),(_,_)] (hC _).v (ax.rfl' _) SubN.ins4 (λr1 σ1 hr hnd2=>?_);obtain⟨κ1,ho2,rfl⟩:=hr;have hv2:=ho2;obtain⟨base1,cap1,rfl,hop⟩:=hv2;refine⟨_,SubN.ins4',?_⟩)|fail))
 all_goals exact RET.mk' (σ':=κ1++[(b,.cells 27 ys),(a,.cells 3 [.int .i64 j])]) SubN.back2 ⟨_,κ1,_,rfl,hfrz _ _ ho2,rfl,rfl⟩
set_option maxHeartbeats 4000000 in
theorem v201 (a j:Nat) (x:U) (hj:j<x.kids.length) (hl:x.kids.length<1000000):
  iV G (.func (.func 201) #[] #[.pointer (some ⟨a,0,none⟩)]) (λz=>{z with kids:=delAt z.kids j}) [(a,.cells 3 [.int .i64 j])] x:=by
 have hCl:=f203 G (x.kids.map U.cs) (dZ _) (by rw[length_map];omega)
 have hmd:(x.kids.map U.cs).take j++(x.kids.map U.cs).drop (j+1)=(delAt x.kids j).map U.cs:=by unfold delAt;rw[map_append,map_take,map_drop]
 have hC:=λv κ ho=>f202 G (x.kids.map U.cs) v κ ho j (by rw[length_map];exact hj) (by rw[length_map];exact hl)
 rw[hmd]at hC
 have hw:IntKind.i64.wrap ((j:Int)+1)=((j+1:Nat):Int):=by rw[aA (by omega) (by omega)];omega
 refine⟨_,_,_,rfl,?_⟩
 show ag G Tryz.prog 201 [.agg x.cs,.sc (.pointer (some ⟨a,0,none⟩))] _ _
 refine ag.freezeK (R1:=λσ'=>σ'=[(a,.cells 3 [.int .i64 j])]) ?_
 refine ag.w c201 ?_
 unfold s201 r201
 have hfrz:=λv κ (ho:bD 27 8 ((delAt x.kids j).map U.cs) v κ)=>U.csv_frz (x:={x with kids:=delAt x.kids j}) ho
 generalize (delAt x.kids j).map U.cs=rows2 at*
 rw[U.cs_eq x]
 (repeat' (first|simp only[EVz,seval,↓reduceIte,EV6,EV7,hw,length_map,hne]|simp only[EVz,seval,↓reduceIte,EV6,EV7,hw,length_map]|(with_reducible intro blk hblk;(try(have hnx:=hblk;simp only[EVK]at hnx;first|(have hne:=AI hnx hne)|(have hne:=hnx))))|(with_reducible refine ae ?_ ?_)|(with_reducible refine af ?_)|(refine aT [] ((_,_)::(_,_)::(_,_)::[]) hCl.v (ax.rfl' _) (SubN.refl _) (λv κ ho hnd=>⟨_,SubN.pull3,?_⟩);have hC:=hC v κ ho;have hv:=ho;obtain⟨base,cap,rfl,_⟩:=hv;simp only[length_map]at ho hC)|(refine aT κ [(_,_),(_,_),(_,_)] hC.v (ax.rfl' _) SubN.del3 (λr1 σ1 ho2 hnd2=>?_);have hv2:=ho2;obtain⟨base1,cap1,rfl,hop⟩:=hv2;refine⟨_,SubN.del3',?_⟩)|fail))
 all_goals exact RET.mk' (σ':=σ1++[(a,.cells 3 [.int .i64 j])]) SubN.back1 ⟨_,σ1,_,rfl,hfrz _ _ ho2,rfl,rfl⟩
theorem f115 (u:U) (hs:u.Short) (hn:u.ids.Nodup) (i:Idd) (hi:i∈u.ids) (hne0:u.id≠i) (hkd:∀p∈u.flat,p.kids.length<=64):Pure G Tryz.prog 115 [.agg u.cs,.agg i.cs] (.agg (without i u).cs):=by
 obtain⟨p,d,j,e1,e2,e3⟩:=bt hn hi hne0
 have hp:p∈u.flat:=by have:=aP u hn e3.mem;rw[e3.fnd]at this;exact this
 have hk64:=hkd p hp
 have hj:j<p.kids.length:=by
  obtain⟨a,k,b,s,_,hj,_⟩:=e3.split
  rw[s.eq,hj,length_append,length_cons];omega
 have hP:=f131 G i u hs hn
 unfold gW at hP
 rw[e1]at hP
 have hW:=λbn=>f118 G _ _ _ p.id u hs hn e3.mem (by rw[e3.fnd];exact v201 G bn j p hj (by omega))
 have hwo:without i u=U.wth p.id (λy=>{y with kids:=delAt y.kids j}) u:=by unfold without;rw[e1]
 rw[hwo]
 have hXl:=U.cs_len (U.wth p.id (λy=>{y with kids:=delAt y.kids j}) u)
 generalize (U.wth p.id (λy=>{y with kids:=delAt y.kids j}) u).cs=ys at*
 have hyt:ys.take 8=ys:=take_of_length_le (by omega)
 simp only[Idd.cs]at hP hW
 rw[U.cs_eq u]at hP hW ⊢
 refine Pure.w c115 λR hR=>?_
 unfold s115 r115
 (repeat' (first|(with_reducible refine aa hP ?_)|simp only[EVz,seval,↓reduceIte,EV6,EV7,hXl,hyt,hne]|simp only[EVz,seval,↓reduceIte,EV6,EV7,hXl,hyt]|(with_reducible intro blk hblk;(try(have hnx:=hblk;simp only[EVK]at hnx;first|(have hne:=AI hnx hne)|(have hne:=hnx))))|(refine ce (hW _).v (by refine⟨?_,λhn=>?_⟩;(repeat(first|exact aM|(refine aD (by repeat(exact mem_cons_self)) ?_)));(simp only[Store.keys,map_cons,map_nil,nodup_cons,mem_cons,not_mem_nil,or_false,not_or,not_false_eq_true,true_and,nodup_nil,and_true,@eq_comm Nat]at hn ⊢ <;>simp only[hn,not_false_eq_true,and_self])) ?_)|fail))
 all_goals exact hR _ _ (.inl (.inl (by simp[hXl,hyt])))
theorem dG (e:Int):LeRep (.tup [.agg zU,.int .i64 e]) (aO (noU,e)):=LeRep.tup (.cons le_noU (.cons (LeRep.refl _) .nil))
end
theorem ag.leRep {G:Glob} {P:Program} {k:FuncId} {args:List AV} {σ:Store} {r0:AV} {R1:Store->Prop} (h:ag G P k args σ (λr σ'=>LeRep r r0/\R1 σ')):ag G P k args σ (λr σ'=>r=r0/\R1 σ'):=
 ⟨h.1,λρ w vs hS hA=>(h.2 ρ w vs hS hA).mono (by
  rintro e w' ⟨v,r,σ',rfl,⟨hr,h1⟩,hS',hE,hrep⟩
  exact⟨v,r0,σ',rfl,⟨rfl,h1⟩,hS',hE,hr _ _ _ hrep⟩)⟩
theorem fit_rng {u:U} {q:Idd} {k:Int} {x:U} (h:en u q k x=0):0<=k/\k<=(fnd q u).kids.length:=by
 unfold en at h
 split at h
 ·cases h
 split at h
 ·cases h
 split at h
 ·cases h
 split at h
 ·cases h
 ·rename_i c;omega
def remU (u:U) (i:Idd):U:=if (remT u i).2≠0 then noU else fnd i u
theorem rem_ok {u:U} {i:Idd} (h:(remT u i).2=0):i∈u.ids/\u.id≠i/\(remT u i).1=without i u:=by
 unfold remT at*
 split at h
 ·cases h
 rename_i c1
 split at h
 ·cases h
 rename_i c2
 split at h
 ·cases h
 rename_i c3
 rw[if_neg c1,if_neg c2,if_neg c3]
 exact⟨by simpa using c2,c3,rfl⟩
theorem rem_bad {u:U} {i:Idd} (h:(remT u i).2≠0):(remT u i).1=noU:=by
 unfold remT at*
 split
 ·rfl
 rename_i c1
 rw[if_neg c1]at h
 split
 ·rfl
 rename_i c2
 rw[if_neg c2]at h
 split
 ·rfl
 rename_i c3
 rw[if_neg c3]at h
 exact absurd rfl h
section
variable (G:Glob) (hG:GOk G)
include hG
set_option maxHeartbeats 4000000 in
theorem f60 (u:U) (hg:Good u) (h0:u.kind=0) (q:Idd) (k:Int) (x:U) (hx:x.Short) (hcx:x.flat.length<=1000000):Pure G Tryz.prog 60 [.agg u.cs,.agg q.cs,.int .i64 k,.agg x.cs] (aO (insT u q k x)):=by
 have hs:=hg.short
 have hF:=f117 G hG u (d6 hg h0) hs (by have:=hg.cnt;omega) q k x hx hcx
 simp only[Idd.cs]at hF
 unfold insT
 obtain⟨F,hFe⟩:∃F,en u q k x=F:=⟨_,rfl⟩
 rw[hFe]at hF ⊢
 have hU:=U.cs_eq u
 have hX:=U.cs_eq x
 by_cases hF0:F=0
 ·subst hF0
  have hq:=fit_mem hFe
  have hr:=fit_rng hFe
  obtain⟨j,rfl⟩:∃j:Nat,k=j:=⟨k.toNat,by omega⟩
  have hkl:=gq hg q
  have hW:=λa b=>f118 G _ _ _ q u hs hg.nd hq (v212 G a b j x (fnd q u) (by omega) (by omega) hx)
  rw[if_neg (by simp),Int.toNat_natCast]
  have hXl:=U.cs_len (U.wth q (λz=>{z with kids:=insAt z.kids j x}) u)
  have hP:=f119 G (j:Int) x
  simp only[Idd.cs]at hW
  unfold aO
  simp only
  generalize (U.wth q (λz=>{z with kids:=insAt z.kids j x}) u).cs=ys at*
  have hyt:ys.take 8=ys:=take_of_length_le (by omega)
  rw[hU]at hF hW ⊢
  rw[hX]at hF hW hP ⊢
  refine Pure.w c60 λR hR=>?_
  unfold s60 r60
  (repeat' (first|(with_reducible (first|refine ab (λh=>?_) (λh=>?_)|refine ai (λh=>?_) (λh=>?_)|refine aj (λh=>?_) (λh=>?_))<;>(try simp only[Da,Db,Dc,Dw,De,Df,Dg,Dh]at h))|(with_reducible refine AI (by omega) ?_)|(with_reducible refine aa hF ?_)|simp only[EVz,seval,↓reduceIte,EV6,EV7,hXl,hyt,hne]|simp only[EVz,seval,↓reduceIte,EV6,EV7,hXl,hyt]|(with_reducible intro blk hblk;(try(have hnx:=hblk;simp only[EVK]at hnx;first|(have hne:=AI hnx hne)|(have hne:=hnx))))|(with_reducible refine ae ?_ ?_)|(with_reducible refine af ?_)|(refine av [] _ hP.v (ax.rfl' _) (SubN.refl _) (λr σ' hh hnd=>?_);obtain⟨ba,bb,rfl,rfl⟩:=hh;(have hne:=hnd);(try simp[Store.keys]at hne))|(refine ce (hW _ _).v (SubN.cons (SubN.cons (SubN.nil _) _) _) ?_)|(exfalso;omega)))
  all_goals exact hR _ _ (.inl (.inl (by first|rfl|(simp[hXl,hyt];done))))
 ·have e1:decide (F≠0)=true:=decide_eq_true hF0
  rw[if_pos hF0]
  rw[hU,hX]at hF ⊢
  refine Pure.wL c60 λR hR=>?_
  unfold s60 r60
  (repeat' (first|(with_reducible (first|refine ab (λh=>?_) (λh=>?_)|refine ai (λh=>?_) (λh=>?_)|refine aj (λh=>?_) (λh=>?_))<;>(try simp only[Da,Db,Dc,Dw,De,Df,Dg,Dh]at h))|(with_reducible refine AI (by omega) ?_)|(with_reducible refine aa hF ?_)|simp only[EVz,seval,↓reduceIte,EV6,EV7,e1,hne]|simp only[EVz,seval,↓reduceIte,EV6,EV7,e1]|(with_reducible intro blk hblk;(try(have hnx:=hblk;simp only[EVK]at hnx;first|(have hne:=AI hnx hne)|(have hne:=hnx))))|(with_reducible refine ae ?_ ?_)|(with_reducible refine af ?_)|(exfalso;omega)))
  all_goals exact hR _ _ (dG F)
theorem f110 (b:Nat) (u:U) (hs:u.Short):ag G Tryz.prog 110 [.sc (.pointer (some ⟨b,0,none⟩))] [(b,.cells 27 u.cs)] λr σ'=>r= .bool (!stP u)/\σ'=[(b,.cells 27 u.cs)]:=by
 have hS:=f111 G hG u hs
 refine ag.w c110 ?_
 unfold s110 r110
 rw[U.cs_eq u]at hS ⊢
 (repeat' (first|(with_reducible (first|refine ab (λh=>?_) (λh=>?_)|refine ai (λh=>?_) (λh=>?_)|refine aj (λh=>?_) (λh=>?_))<;>(try simp only[Da,Db,Dc,Dw,De,Df,Dg,Dh]at h))|(with_reducible refine AI (by omega) ?_)|(with_reducible refine aa hS ?_)|simp only[EVz,seval,↓reduceIte,EV6,EV7,hne]|simp only[EVz,seval,↓reduceIte,EV6,EV7]|(with_reducible intro blk hblk;(try(have hnx:=hblk;simp only[EVK]at hnx;first|(have hne:=AI hnx hne)|(have hne:=hnx))))|(with_reducible refine ae ?_ ?_)|(with_reducible refine af ?_)|(exfalso;omega)))
 all_goals exact RET.keep rfl (SubN.refl _)
omit hG
theorem f112 (b c:Nat) (u:U) (hs:u.Short) (i:Idd):ag G Tryz.prog 112 [.sc (.pointer (some ⟨b,0,none⟩)),.sc (.pointer (some ⟨c,0,none⟩))] [(b,.cells 27 u.cs),(c,.cells 23 i.cs)] λr σ'=>r= .bool (!hasP i u)/\σ'=[(b,.cells 27 u.cs),(c,.cells 23 i.cs)]:=by
 have hH:=f113 G i u hs
 simp only[Idd.cs]at hH
 refine ag.wn c112 λhnd=>?_
 have q1:¬b=c:=by simp[Store.keys]at hnd;exact hnd
 unfold s112 r112
 rw[U.cs_eq u]at hH ⊢
 (repeat' (first|(with_reducible (first|refine ab (λh=>?_) (λh=>?_)|refine ai (λh=>?_) (λh=>?_)|refine aj (λh=>?_) (λh=>?_))<;>(try simp only[Da,Db,Dc,Dw,De,Df,Dg,Dh]at h))|(with_reducible refine AI (by omega) ?_)|(with_reducible refine aa hH ?_)|simp only[EVz,seval,↓reduceIte,EV6,EV7,q1,hne]|simp only[EVz,seval,↓reduceIte,EV6,EV7,q1]|(with_reducible intro blk hblk;(try(have hnx:=hblk;simp only[EVK]at hnx;first|(have hne:=AI hnx hne)|(have hne:=hnx))))|(with_reducible refine ae ?_ ?_)|(with_reducible refine af ?_)|(exfalso;omega)))
 all_goals exact RET.keep rfl (SubN.refl _)
theorem f114 (b c:Nat) (u:U) (i:Idd):ag G Tryz.prog 114 [.sc (.pointer (some ⟨b,0,none⟩)),.sc (.pointer (some ⟨c,0,none⟩))] [(b,.cells 27 u.cs),(c,.cells 23 i.cs)] λr σ'=>r= .bool (decide (u.id=i))/\σ'=[(b,.cells 27 u.cs),(c,.cells 23 i.cs)]:=by
 refine ag.wn c114 λhnd=>?_
 have q1:¬b=c:=by simp[Store.keys]at hnd;exact hnd
 unfold s114 r114
 rw[U.cs_eq u]
 (repeat' (first|(with_reducible (first|refine ab (λh=>?_) (λh=>?_)|refine ai (λh=>?_) (λh=>?_)|refine aj (λh=>?_) (λh=>?_))<;>(try simp only[Da,Db,Dc,Dw,De,Df,Dg,Dh]at h))|(with_reducible refine AI (by omega) ?_)|simp only[EVz,seval,↓reduceIte,EV6,EV7,q1,idd_eq,hne]|simp only[EVz,seval,↓reduceIte,EV6,EV7,q1,idd_eq]|(with_reducible intro blk hblk;(try(have hnx:=hblk;simp only[EVK]at hnx;first|(have hne:=AI hnx hne)|(have hne:=hnx))))|(with_reducible refine ae ?_ ?_)|(with_reducible refine af ?_)|(exfalso;omega)))
 all_goals exact RET.keep rfl (SubN.refl _)
include hG
set_option maxHeartbeats 4000000 in
theorem f58 (u:U) (hg:Good u) (i:Idd):Pure G Tryz.prog 58 [.agg u.cs,.agg i.cs] (.tup [.agg (remT u i).1.cs,.agg (remU u i).cs,.int .i64 (remT u i).2]):=by
 have hs:=hg.short
 have c1:=λb=>f110 G hG b u hs
 have c2:=λb c=>f112 G b c u hs i
 have c3:=λb c=>f114 G b c u i
 have hfst:=λf1 f2 f3=>rem_first u i f1 f2 f3
 have hU:=U.cs_eq u
 obtain⟨e,he⟩:∃e,(remT u i).2=e:=⟨_,rfl⟩
 have hRU:(remU u i)=if e≠0 then noU else fnd i u:=by unfold remU;rw[he]
 rw[hRU]
 simp only[he]at hfst
 rw[he]
 simp only[Idd.cs]at c2 c3
 by_cases h0:e=0
 ·subst h0
  obtain⟨hi,hne0,hw⟩:=rem_ok he
  rw[hw,if_neg (by simp)]
  have hWo:=f115 G u hs hg.nd i hi hne0 (λp hp=>cT (hg.node p hp))
  have hF:=cj G i u hs
  have hC:=f116 G (fnd i u) (fb hs i)
  have hXl:=U.cs_len (without i u)
  have hYl:=U.cs_len (fnd i u)
  generalize (without i u).cs=xs at*
  generalize (fnd i u).cs=ys at*
  have hxt:xs.take 8=xs:=take_of_length_le (by omega)
  have hyt:ys.take 8=ys:=take_of_length_le (by omega)
  simp only[Idd.cs]at hWo hF
  rw[hU]at c1 c2 c3 hWo hF ⊢
  refine Pure.w c58 λR hR=>?_
  unfold s58 r58
  (repeat' (first|(with_reducible (first|refine ab (λh=>?_) (λh=>?_)|refine ai (λh=>?_) (λh=>?_)|refine aj (λh=>?_) (λh=>?_))<;>(try simp only[Da,Db,Dc,Dw,De,Df,Dg,Dh]at h))|(with_reducible refine AI (by omega) ?_)|(with_reducible first|refine aa hWo ?_|refine aa hF ?_|refine aa hC ?_)|simp only[EVz,seval,↓reduceIte,EV6,EV7,hXl,hYl,hxt,hyt,hne]|simp only[EVz,seval,↓reduceIte,EV6,EV7,hXl,hYl,hxt,hyt]|(with_reducible intro blk hblk;(try(have hnx:=hblk;simp only[EVK]at hnx;first|(have hne:=AI hnx hne)|(have hne:=hnx))))|(with_reducible refine ae ?_ ?_)|(with_reducible refine af ?_)|(refine⟨[[.sc _,.int .i64 _],[.sc _,.int .i64 _],[.sc _,.int .i64 _]],rfl,(by simp),rfl,?_⟩)|(exfalso;omega)))
  refine bG G (l:=[(_,!stP u,1),(_,!hasP i u,4),(_,decide (u.id=i),9)]) rfl (by simp) (λy hy=>?_) ?_
  ·simp only[mem_cons,not_mem_nil,or_false]at hy
   rcases hy with rfl|rfl|rfl
   ·exact⟨_,(by refine⟨?_,λhn=>?_⟩;(repeat(first|exact aM|(refine aD (by repeat(first|exact mem_cons_self|refine mem_cons_of_mem _ ?_)) ?_)));(simp only[Store.keys,map_cons,map_nil,nodup_cons,mem_cons,not_mem_nil,or_false,not_or,not_false_eq_true,true_and,nodup_nil,and_true,@eq_comm Nat]at hn ⊢ <;>simp only[hn,not_false_eq_true,and_self])),_,_,_,rfl,c1 _⟩
   ·exact⟨_,(by refine⟨?_,λhn=>?_⟩;(repeat(first|exact aM|(refine aD (by repeat(first|exact mem_cons_self|refine mem_cons_of_mem _ ?_)) ?_)));(simp only[Store.keys,map_cons,map_nil,nodup_cons,mem_cons,not_mem_nil,or_false,not_or,not_false_eq_true,true_and,nodup_nil,and_true,@eq_comm Nat]at hn ⊢ <;>simp only[hn,not_false_eq_true,and_self])),_,_,_,rfl,c2 _ _⟩
   ·exact⟨_,(by refine⟨?_,λhn=>?_⟩;(repeat(first|exact aM|(refine aD (by repeat(first|exact mem_cons_self|refine mem_cons_of_mem _ ?_)) ?_)));(simp only[Store.keys,map_cons,map_nil,nodup_cons,mem_cons,not_mem_nil,or_false,not_or,not_false_eq_true,true_and,nodup_nil,and_true,@eq_comm Nat]at hn ⊢ <;>simp only[hn,not_false_eq_true,and_self])),_,_,_,rfl,c3 _ _⟩
  ·rw[hfst]
   (repeat' (first|(with_reducible (first|refine ab (λh=>?_) (λh=>?_)|refine ai (λh=>?_) (λh=>?_)|refine aj (λh=>?_) (λh=>?_))<;>(try simp only[Da,Db,Dc,Dw,De,Df,Dg,Dh]at h))|(with_reducible refine AI (by omega) ?_)|(with_reducible first|refine aa hWo ?_|refine aa hF ?_|refine aa hC ?_)|simp only[EVz,seval,↓reduceIte,EV6,EV7,hXl,hYl,hxt,hyt,hne]|simp only[EVz,seval,↓reduceIte,EV6,EV7,hXl,hYl,hxt,hyt]|(with_reducible intro blk hblk;(try(have hnx:=hblk;simp only[EVK]at hnx;first|(have hne:=AI hnx hne)|(have hne:=hnx))))|(with_reducible refine ae ?_ ?_)|(with_reducible refine af ?_)|(exfalso;omega)))
   all_goals exact hR _ _ (.inl (.inl (by first|rfl|(simp[hXl,hYl,hxt,hyt];done))))
 ·have e1:decide (e≠0)=true:=decide_eq_true h0
  rw[if_pos h0,rem_bad (by rw[he];exact h0)]
  rw[hU]at c1 c2 c3 ⊢
  refine Pure.wL c58 λR hR=>?_
  unfold s58 r58
  (repeat' (first|(with_reducible (first|refine ab (λh=>?_) (λh=>?_)|refine ai (λh=>?_) (λh=>?_)|refine aj (λh=>?_) (λh=>?_))<;>(try simp only[Da,Db,Dc,Dw,De,Df,Dg,Dh]at h))|(with_reducible refine AI (by omega) ?_)|simp only[EVz,seval,↓reduceIte,EV6,EV7,e1,hne]|simp only[EVz,seval,↓reduceIte,EV6,EV7,e1]|(with_reducible intro blk hblk;(try(have hnx:=hblk;simp only[EVK]at hnx;first|(have hne:=AI hnx hne)|(have hne:=hnx))))|(with_reducible refine ae ?_ ?_)|(with_reducible refine af ?_)|(refine⟨[[.sc _,.int .i64 _],[.sc _,.int .i64 _],[.sc _,.int .i64 _]],rfl,(by simp),rfl,?_⟩)|(exfalso;omega)))
  refine bG G (l:=[(_,!stP u,1),(_,!hasP i u,4),(_,decide (u.id=i),9)]) rfl (by simp) (λy hy=>?_) ?_
  ·simp only[mem_cons,not_mem_nil,or_false]at hy
   rcases hy with rfl|rfl|rfl
   ·exact⟨_,(by refine⟨?_,λhn=>?_⟩;(repeat(first|exact aM|(refine aD (by repeat(first|exact mem_cons_self|refine mem_cons_of_mem _ ?_)) ?_)));(simp only[Store.keys,map_cons,map_nil,nodup_cons,mem_cons,not_mem_nil,or_false,not_or,not_false_eq_true,true_and,nodup_nil,and_true,@eq_comm Nat]at hn ⊢ <;>simp only[hn,not_false_eq_true,and_self])),_,_,_,rfl,c1 _⟩
   ·exact⟨_,(by refine⟨?_,λhn=>?_⟩;(repeat(first|exact aM|(refine aD (by repeat(first|exact mem_cons_self|refine mem_cons_of_mem _ ?_)) ?_)));(simp only[Store.keys,map_cons,map_nil,nodup_cons,mem_cons,not_mem_nil,or_false,not_or,not_false_eq_true,true_and,nodup_nil,and_true,@eq_comm Nat]at hn ⊢ <;>simp only[hn,not_false_eq_true,and_self])),_,_,_,rfl,c2 _ _⟩
   ·exact⟨_,(by refine⟨?_,λhn=>?_⟩;(repeat(first|exact aM|(refine aD (by repeat(first|exact mem_cons_self|refine mem_cons_of_mem _ ?_)) ?_)));(simp only[Store.keys,map_cons,map_nil,nodup_cons,mem_cons,not_mem_nil,or_false,not_or,not_false_eq_true,true_and,nodup_nil,and_true,@eq_comm Nat]at hn ⊢ <;>simp only[hn,not_false_eq_true,and_self])),_,_,_,rfl,c3 _ _⟩
  ·rw[hfst]
   (repeat' (first|(with_reducible (first|refine ab (λh=>?_) (λh=>?_)|refine ai (λh=>?_) (λh=>?_)|refine aj (λh=>?_) (λh=>?_))<;>(try simp only[Da,Db,Dc,Dw,De,Df,Dg,Dh]at h))|(with_reducible refine AI (by omega) ?_)|simp only[EVz,seval,↓reduceIte,EV6,EV7,e1,hne]|simp only[EVz,seval,↓reduceIte,EV6,EV7,e1]|(with_reducible intro blk hblk;(try(have hnx:=hblk;simp only[EVK]at hnx;first|(have hne:=AI hnx hne)|(have hne:=hnx))))|(with_reducible refine ae ?_ ?_)|(with_reducible refine af ?_)|(exfalso;omega)))
   all_goals exact hR _ _ (LeRep.tup (.cons le_noU (.cons le_noU (.cons (LeRep.refl _) .nil))))
end
end Go.Av
