/-
  SYNTAX, plain law 1: the text of an address, of a unit.
-/
import Derived.Test.YtepngejmjdgccaaGreatDoorXS0toXL25
import Derived.Test.YtepngejmjdgccaaGreatDoorXP1
namespace Go.Av
open Go Go.RowKit Go.Proofs
set_option linter.unusedSimpArgs false
set_option linter.unusedVariables false
/-! ### addresses -/
def okS (s:Stp):Prop:=0<=s.kind/\s.kind<=7/\(s.kind=0->s.label=[])/\32∉s.label
theorem dig_nosp {s:List UInt8}:∀c∈s.take (digN s),isDig c=true:=by
 induction s with
 |nil=>intro c hc;simp at hc
 |cons a s ih=>
  intro c hc
  unfold digN at hc
  split at hc
  ·rename_i ha
   rw[List.take_succ_cons]at hc
   rcases List.mem_cons.1 hc with rfl|hc
   ·exact ha
   ·exact ih c hc
  ·simp at hc
theorem label_ch {s:List UInt8} (h:labelOk s=true):s≠[]/\∀c∈s,isDig c=true\/isUp c=true:=by
 unfold labelOk at h
 simp only[Bool.and_eq_true,decide_eq_true_eq,List.all_eq_true]at h
 obtain⟨h1,_,_,_,h5⟩:=h
 constructor
 ·rintro rfl;simp[digN]at h1
 ·intro c hc
  rw[←List.take_append_drop (digN s) s]at hc
  rcases List.mem_append.1 hc with hc|hc
  ·exact .inl (dig_nosp c hc)
  ·exact .inr (h5 c hc)
theorem label_nosp {s:List UInt8} (h:labelOk s=true):32∉s:=by
 intro hc
 rcases(label_ch h).2 _ hc with h|h<;>revert h<;>decide
theorem stps_ok:∀{p:List Stp} {i:Nat},stepsOk i p=true->∀s∈p,okS s
 |[],_,_,s,hs=>by cases hs
 |a::p,i,h,s,hs=>by
  simp only[stepsOk,Bool.and_eq_true]at h
  rcases List.mem_cons.1 hs with rfl|hs
  ·have h1:=h.1
   unfold stepOk at h1
   simp only[Bool.or_eq_true,Bool.and_eq_true,decide_eq_true_eq]at h1
   rcases h1 with⟨_,h2,h3⟩|⟨h2,h3,h4⟩
   ·exact⟨by omega,by omega,λ_=>h3,by rw[h3];simp⟩
   ·exact⟨by omega,h3,λe=>by omega,label_nosp h4⟩
  ·exact stps_ok h.2 s hs
theorem addr_ok {p:List Stp} (h:addrOk p=true):∀s∈p,okS s:=by
 unfold addrOk at h
 rw[Bool.and_eq_true]at h
 exact stps_ok h.2
theorem kind_fin {k:Int} (h0:0<=k) (h7:k<=7):∃i:Fin 8,k=(i:Nat):=⟨⟨k.toNat,by omega⟩,by simp;omega⟩
theorem kindText_fin (i:Fin 8):kindText ((i:Nat):Int)=kindNames.getD i []:=by unfold kindText;rw[Int.toNat_natCast]
theorem kindText_inj {k k':Int} (h0:0<=k) (h7:k<=7) (h0':0<=k') (h7':k'<=7) (h:kindText k=kindText k'):k=k':=by
 obtain⟨i,rfl⟩:=kind_fin h0 h7
 obtain⟨j,rfl⟩:=kind_fin h0' h7'
 rw[kindText_fin,kindText_fin]at h
 have key:∀i j:Fin 8,kindNames.getD i []=kindNames.getD j []->i=j:=by decide
 rw[key i j h]
theorem kindText_mem {k:Int} (h0:0<=k) (h7:k<=7):kindText k∈kindNames:=by
 obtain⟨i,rfl⟩:=kind_fin h0 h7
 rw[kindText_fin]
 have key:∀i:Fin 8,kindNames.getD i []∈kindNames:=by decide
 exact key i
theorem kindNames_low:∀w∈kindNames,w≠[]/\∀c∈w,97<=c/\c<=122:=by decide
theorem kindText_nosp {k:Int} (h0:0<=k) (h7:k<=7):32∉kindText k:=by
 intro h
 have:=(kindNames_low _ (kindText_mem h0 h7)).2 _ h
 revert this;decide
def stepT (s:Stp):List UInt8:=kindText s.kind++(if s.kind=0 then []else 32::s.label)
def addrF (p:List Stp):List UInt8:=p.flatMap λs=>32::stepT s
def atT (p:List Stp):List UInt8:=if p=[]then 32::[97,108,108]else addrF p
def Stop (s:List UInt8):Prop:=s=[]\/∃w r,s=32::(w++r)/\32∉w/\Sp r/\w∉kindNames
theorem Stop.sp {s:List UInt8} (h:Stop s):Sp s:=by
 rcases h with rfl|⟨w,r,rfl,_⟩
 ·exact Sp.nil
 ·exact Sp.cons
theorem addrF_sp {p:List Stp} {s:List UInt8} (h:Sp s):Sp (addrF p++s):=by
 cases p with
 |nil=>exact h
 |cons a p=>exact Sp.cons
theorem step_sp {a:Stp} {s:List UInt8} (h:Sp s):Sp ((if a.kind=0 then []else 32::a.label)++s):=by
 split
 ·exact h
 ·exact Sp.cons
theorem addrF_cons (a:Stp) (p:List Stp) (s:List UInt8):addrF (a::p)++s=32::(kindText a.kind++((if a.kind=0 then []else 32::a.label)++(addrF p++s))):=by simp[addrF,stepT]
theorem stop_no {b:Stp} (hb:okS b) {m:List Stp} {s t:List UInt8} (hs:Stop s) (ht:Stop t) (h:s=addrF (b::m)++t):False:=by
 rw[addrF_cons]at h
 rcases hs with rfl|⟨w,r,rfl,h1,h2,h3⟩
 ·cases h
 ·simp only[List.cons.injEq,true_and]at h
  obtain⟨e,_⟩:=wcut h1 (kindText_nosp hb.1 hb.2.1) h2 (step_sp (addrF_sp ht.sp)) h
  exact h3 (e ▸ kindText_mem hb.1 hb.2.1)
theorem addrF_cut:∀{l m:List Stp} {s t:List UInt8},(∀x∈l,okS x)->(∀x∈m,okS x)->Stop s->Stop t->addrF l++s=addrF m++t->l=m/\s=t
 |[],[],_,_,_,_,_,_,h=>⟨rfl,h⟩
 |[],b::m,s,t,_,hm,hs,ht,h=>(stop_no (hm b (by simp)) hs ht h).elim
 |a::l,[],s,t,hl,_,hs,ht,h=>(stop_no (hl a (by simp)) ht hs h.symm).elim
 |a::l,b::m,s,t,hl,hm,hs,ht,h=>by
  have ha:=hl a (by simp)
  have hb:=hm b (by simp)
  rw[addrF_cons,addrF_cons]at h
  simp only[List.cons.injEq,true_and]at h
  obtain⟨e1,h⟩:=wcut (kindText_nosp ha.1 ha.2.1) (kindText_nosp hb.1 hb.2.1) (step_sp (addrF_sp hs.sp)) (step_sp (addrF_sp ht.sp)) h
  have ek:=kindText_inj ha.1 ha.2.1 hb.1 hb.2.1 e1
  have hrec:a.label=b.label/\addrF l++s=addrF m++t:=by
   rw[ek]at h
   by_cases h0:b.kind=0
   ·rw[if_pos h0,if_pos h0]at h
    exact⟨by rw[ha.2.2.1 (by omega),hb.2.2.1 h0],h⟩
   ·rw[if_neg h0,if_neg h0]at h
    simp only[List.cons_append,List.cons.injEq,true_and]at h
    exact wcut ha.2.2.2 hb.2.2.2 (addrF_sp hs.sp) (addrF_sp ht.sp) h
  obtain⟨e2,e3⟩:=addrF_cut (λx hx=>hl x (by simp[hx])) (λx hx=>hm x (by simp[hx])) hs ht hrec.2
  refine⟨?_,e3⟩
  rw[e2]
  obtain⟨k,la⟩:=a
  obtain⟨k',lb⟩:=b
  simp only at ek hrec
  rw[ek,hrec.1]
theorem all_stop {s:List UInt8} (h:Sp s):Stop (32::([97,108,108]++s)):=.inr ⟨_,_,rfl,by decide,h,by decide⟩
theorem at_cut {p q:List Stp} {s t:List UInt8} (hp:addrOk p=true) (hq:addrOk q=true) (hs:Stop s) (ht:Stop t) (h:atT p++s=atT q++t):p=q/\s=t:=by
 unfold atT at h
 by_cases h1:p=[]<;>by_cases h2:q=[]
 ·rw[if_pos h1,if_pos h2]at h
  exact⟨by rw[h1,h2],by simpa using h⟩
 ·rw[if_pos h1,if_neg h2]at h
  obtain⟨b,m,rfl⟩:=List.exists_cons_of_ne_nil h2
  exact(stop_no (addr_ok hq b (by simp)) (all_stop hs.sp) ht h).elim
 ·rw[if_neg h1,if_pos h2]at h
  obtain⟨b,m,rfl⟩:=List.exists_cons_of_ne_nil h1
  exact(stop_no (addr_ok hp b (by simp)) (all_stop ht.sp) hs h.symm).elim
 ·rw[if_neg h1,if_neg h2]at h
  exact addrF_cut (addr_ok hp) (addr_ok hq) hs ht h
/-! ### units -/
theorem escT_inj {a b:List UInt8} (h:escT a=escT b):a=b:=by
 unfold escT at h
 by_cases h1:a.getD 0 0=124\/a.getD 0 0=92<;>by_cases h2:b.getD 0 0=124\/b.getD 0 0=92
 ·rw[if_pos h1,if_pos h2]at h;simpa using h
 ·rw[if_pos h1,if_neg h2]at h
  exfalso;apply h2;rw[←h];right;rfl
 ·rw[if_neg h1,if_pos h2]at h
  exfalso;apply h1;rw[h];right;rfl
 ·rw[if_neg h1,if_neg h2]at h;exact h
theorem escT_bar (a:List UInt8):escT a≠[124]:=by
 unfold escT
 split
 ·simp
 ·rename_i h
  intro e
  apply h
  rw[e];left;rfl
theorem word_ch {s:List UInt8} (h:wordOk s=true):s≠[]/\∀c∈s,33<=c.toNat/\c.toNat<=126:=by
 unfold wordOk okCh at h
 simp only[Bool.and_eq_true,decide_eq_true_eq,List.all_eq_true]at h
 refine⟨?_,λc hc=>?_⟩
 ·rintro rfl;simp at h
 ·have:=h.2.2 c hc;omega
theorem word_nosp {s:List UInt8} (h:wordOk s=true):32∉s:=by
 intro hc
 have:=(word_ch h).2 _ hc
 simp at this
theorem esc_ch {s:List UInt8} (h:wordOk s=true):∀c∈escT s,33<=c.toNat/\c.toNat<=126:=by
 unfold escT
 split
 ·intro c hc
  rcases List.mem_cons.1 hc with rfl|hc
  ·decide
  ·exact(word_ch h).2 c hc
 ·exact(word_ch h).2
theorem esc_nosp {s:List UInt8} (h:wordOk s=true):32∉escT s:=by
 intro hc
 have:=esc_ch h _ hc
 simp at this
def barT (l:List Wd):List UInt8:=if (0:Int)<l.length then 32::124::wordsT l else []
theorem wordsT_sp (l:List Wd) {s:List UInt8} (h:Sp s):Sp (wordsT l++s):=by
 cases l with
 |nil=>exact h
 |cons a l=>exact Sp.cons
theorem wordsT_cons (w:Wd) (l:List Wd) (s:List UInt8):wordsT (w::l)++s=32::(escT w.text++(wordsT l++s)):=by simp[wordsT]
def txs (l:List Wd):List (List UInt8):=l.map Wd.text
theorem words_end:∀{l m:List Wd},(∀w∈l,wordOk w.text=true)->(∀w∈m,wordOk w.text=true)->wordsT l=wordsT m->txs l=txs m
 |[],[],_,_,_=>rfl
 |[],_::_,_,_,h=>by simp[wordsT]at h
 |_::_,[],_,_,h=>by simp[wordsT]at h
 |w::l,v::m,hl,hm,h=>by
  have h:=congrArg (· ++[]) h
  simp only[wordsT_cons,List.cons.injEq,true_and]at h
  obtain⟨h1,h2⟩:=wcut (esc_nosp (hl w (by simp))) (esc_nosp (hm v (by simp))) (wordsT_sp l Sp.nil) (wordsT_sp m Sp.nil) h
  simp only[List.append_nil]at h2
  simp only[txs,List.map_cons]
  rw[escT_inj h1]
  exact congrArg _ (words_end (λw hw=>hl w (by simp[hw])) (λw hw=>hm w (by simp[hw])) h2)
theorem barT_sp (l:List Wd):Sp (barT l):=by unfold barT;split;exact Sp.cons;exact Sp.nil
theorem barT_nil:barT []=[]:=by simp[barT]
theorem barT_cons (w:Wd) (l:List Wd):barT (w::l)=32::([124]++wordsT (w::l)):=by
 unfold barT
 rw[if_pos (by simp only[List.length_cons];omega)]
 rfl
theorem bar_no {w:Wd} {l r m:List Wd} (hw:wordOk w.text=true) (h:barT r=wordsT (w::l)++barT m):False:=by
 rw[wordsT_cons]at h
 cases r with
 |nil=>rw[barT_nil]at h;cases h
 |cons a r=>
  rw[barT_cons]at h
  simp only[List.cons.injEq,true_and]at h
  have h:=congrArg (· ++[]) h
  simp only[List.append_assoc]at h
  obtain⟨e,_⟩:=wcut (x:=[124]) (by decide) (esc_nosp hw) (wordsT_sp (a::r) Sp.nil) (wordsT_sp l ((barT_sp m).app Sp.nil)) h
  exact escT_bar _ e.symm
theorem bar_inj {r q:List Wd} (hr:∀w∈r,wordOk w.text=true) (hq:∀w∈q,wordOk w.text=true) (h:barT r=barT q):txs r=txs q:=by
 cases r with
 |nil=>
  cases q with
  |nil=>rfl
  |cons b q=>rw[barT_nil,barT_cons]at h;cases h
 |cons a r=>
  cases q with
  |nil=>rw[barT_nil,barT_cons]at h;cases h
  |cons b q=>
   rw[barT_cons,barT_cons]at h
   simp only[List.cons_append,List.nil_append,List.cons.injEq,true_and]at h
   exact words_end hr hq h
theorem words_cut:∀{l m r q:List Wd},(∀w∈l,wordOk w.text=true)->(∀w∈m,wordOk w.text=true)->(∀w∈r,wordOk w.text=true)->(∀w∈q,wordOk w.text=true)->wordsT l++barT r=wordsT m++barT q->txs l=txs m/\txs r=txs q
 |[],[],r,q,_,_,hr,hq,h=>⟨rfl,bar_inj hr hq (by simpa[wordsT]using h)⟩
 |[],v::m,r,q,_,hm,_,_,h=>(bar_no (hm v (by simp)) (by simpa[wordsT]using h)).elim
 |w::l,[],r,q,hl,_,_,_,h=>(bar_no (hl w (by simp)) (by simpa[wordsT]using h.symm)).elim
 |w::l,v::m,r,q,hl,hm,hr,hq,h=>by
  rw[wordsT_cons,wordsT_cons]at h
  simp only[List.cons.injEq,true_and]at h
  obtain⟨h1,h2⟩:=wcut (esc_nosp (hl w (by simp))) (esc_nosp (hm v (by simp))) (wordsT_sp l (barT_sp r)) (wordsT_sp m (barT_sp q)) h
  obtain⟨h3,h4⟩:=words_cut (λw hw=>hl w (by simp[hw])) (λw hw=>hm w (by simp[hw])) hr hq h2
  refine⟨?_,h4⟩
  simp only[txs,List.map_cons]at h3 ⊢
  rw[escT_inj h1,h3]
def labT (u:U):List UInt8:=if u.kind=0 then []else 32::u.label
def hedT (l:List Wd):List UInt8:=if (0:Int)<l.length then 58::wordsT l else []
theorem lineT_eq (u:U) (n:Nat):lineT u n=List.replicate (2*n) 32++(kindText u.kind++(labT u++(hedT u.head++barT u.words))):=rfl
theorem row_ok {l:List Wd} (h:rowOk l=true):∀w∈l,wordOk w.text=true:=by
 unfold rowOk at h
 simp only[Bool.and_eq_true,List.all_eq_true]at h
 exact h.2
theorem alone_k {u:U} (h:alone11 u=true):0<=u.kind/\u.kind<=7/\(u.kind=0->u.label=[]/\u.head=[]/\u.words=[])/\(u.kind≠0->labelOk u.label=true)/\(∀w∈u.head,wordOk w.text=true)/\∀w∈u.words,wordOk w.text=true:=by
 unfold alone11 at h
 split at h
 ·rename_i hk
  simp only[Bool.and_eq_true,decide_eq_true_eq]at h
  have e1:u.head=[]:=List.eq_nil_of_length_eq_zero (by omega)
  have e2:u.words=[]:=List.eq_nil_of_length_eq_zero (by omega)
  exact⟨by omega,by omega,λ_=>⟨h.1,e1,e2⟩,λe=>absurd hk e,by rw[e1];simp,by rw[e2];simp⟩
 ·rename_i hk
  simp only[Bool.and_eq_true,decide_eq_true_eq]at h
  exact⟨by omega,h.2.1,λe=>absurd e hk,λ_=>h.2.2.1,row_ok h.2.2.2.1,row_ok h.2.2.2.2⟩
theorem kindText_head {k:Int} (h0:0<=k) (h7:k<=7) (s:List UInt8):∀c,(kindText k++s).head?=some c->¬c=32:=by
 intro c hc e
 have h1:=kindNames_low _ (kindText_mem h0 h7)
 cases hk:kindText k with
 |nil=>exact h1.1 hk
 |cons a t=>
  rw[hk]at hc h1
  simp only[List.cons_append,List.head?_cons,Option.some.injEq]at hc
  have:=h1.2 a (by simp)
  rw[hc,e]at this
  revert this;decide
theorem tail_sp {u:U} (h:alone11 u=true):Sp (labT u++(hedT u.head++barT u.words)):=by
 have q:=alone_k h
 unfold labT
 split
 ·rename_i hk
  obtain⟨_,e1,e2⟩:=q.2.2.1 hk
  rw[e1,e2]
  exact Sp.nil
 ·exact Sp.cons
theorem hed_head (l r:List Wd):∀c,(hedT l++barT r).head?=some c->¬(isDig c=true\/isUp c=true):=by
 intro c hc
 have:c=58\/c=32:=by
  unfold hedT at hc
  split at hc
  ·left;simpa using hc.symm
  ·right
   exact barT_sp r c hc
 rcases this with rfl|rfl<;>decide
theorem hed_nil:hedT []=[]:=by simp[hedT]
theorem hed_cons (w:Wd) (l:List Wd):hedT (w::l)=58::wordsT (w::l):=by
 unfold hedT
 rw[if_pos (by simp only[List.length_cons];omega)]
theorem hed_bar {w:Wd} {l r q:List Wd} (h:58::wordsT (w::l)++barT r=barT q):False:=by
 cases q with
 |nil=>rw[barT_nil]at h;cases h
 |cons b q=>rw[barT_cons]at h;simp at h
theorem line_inj {u v:U} {n m:Nat} (hu:alone11 u=true) (hv:alone11 v=true) (h:lineT u n=lineT v m):n=m/\u.kind=v.kind/\u.label=v.label/\txs u.head=txs v.head/\txs u.words=txs v.words:=by
 have qu:=alone_k hu
 have qv:=alone_k hv
 rw[lineT_eq,lineT_eq]at h
 obtain⟨h1,h⟩:=cutP (· =32) (λc hc=>List.eq_of_mem_replicate hc) (λc hc=>List.eq_of_mem_replicate hc) (kindText_head qu.1 qu.2.1 _) (kindText_head qv.1 qv.2.1 _) h
 have hn:n=m:=by
  have:=congrArg List.length h1
  simp only[List.length_replicate]at this;omega
 obtain⟨h2,h⟩:=wcut (kindText_nosp qu.1 qu.2.1) (kindText_nosp qv.1 qv.2.1) (tail_sp hu) (tail_sp hv) h
 have hk:=kindText_inj qu.1 qu.2.1 qv.1 qv.2.1 h2
 refine⟨hn,hk,?_⟩
 by_cases h0:v.kind=0
 ·obtain⟨a1,a2,a3⟩:=qu.2.2.1 (by omega)
  obtain⟨b1,b2,b3⟩:=qv.2.2.1 h0
  rw[a1,a2,a3,b1,b2,b3]
  exact⟨rfl,rfl,rfl⟩
 ·unfold labT at h
  rw[if_neg h0,if_neg (by omega)]at h
  simp only[List.cons_append,List.cons.injEq,true_and]at h
  obtain⟨h3,h⟩:=cutP (λc=>isDig c=true\/isUp c=true) (label_ch (qu.2.2.2.1 (by omega))).2 (label_ch (qv.2.2.2.1 h0)).2 (hed_head _ _) (hed_head _ _) h
  refine⟨h3,?_⟩
  obtain⟨_,_,_,_,hu1,hu2⟩:=qu
  obtain⟨_,_,_,_,hv1,hv2⟩:=qv
  cases ha:u.head with
  |nil=>
   cases hb:v.head with
   |nil=>
    rw[ha,hb,hed_nil]at h
    exact⟨rfl,bar_inj hu2 hv2 h⟩
   |cons b m=>
    rw[ha,hb,hed_nil,hed_cons]at h
    exact(hed_bar h.symm).elim
  |cons a l=>
   cases hb:v.head with
   |nil=>
    rw[ha,hb,hed_nil,hed_cons]at h
    exact(hed_bar h).elim
   |cons b m=>
    rw[ha,hb,hed_cons,hed_cons]at h
    simp only[List.cons_append,List.cons.injEq,true_and]at h
    rw[ha]at hu1
    rw[hb]at hv1
    exact words_cut hu1 hv1 hu2 hv2 h
/-! ### trees -/
def lead (l:List UInt8):Nat:=(l.takeWhile (· ==32)).length
theorem lead_rep:∀(n:Nat) {s:List UInt8},(∀c,s.head?=some c->¬c=32)->lead (List.replicate n 32++s)=n
 |0,s,h=>by
  cases s with
  |nil=>rfl
  |cons a s=>
   have:=h a rfl
   simp[lead,List.takeWhile,this]
 |n+1,s,h=>by
  have:=lead_rep n h
  unfold lead at this ⊢
  rw[List.replicate_succ,List.cons_append,List.takeWhile_cons_of_pos (by decide),List.length_cons,this]
theorem lead_line {u:U} (h:alone11 u=true) (n:Nat):lead (lineT u n)=2*n:=by
 rw[lineT_eq]
 exact lead_rep _ (kindText_head (alone_k h).1 (alone_k h).2.1 _)
def Low (n:Nat) (r:List (List UInt8)):Prop:=∀l,r.head?=some l->lead l<=2*n
def OkT (n:Nat) (u:U):Prop:=u.shape n=true/\u.flat.all bareNode=true
theorem OkT.split {n:Nat} {u:U} (h:OkT n u):lineOf u n=lineT u n/\alone11 u=true/\bareNode u=true/\∀k∈u.kids,OkT (n+1) k:=by
 obtain⟨h1,h2⟩:=h
 rw[U.shape_eq,shapes_all]at h1
 simp only[Bool.and_eq_true,decide_eq_true_eq,List.all_eq_true]at h1
 rw[flat_all,Bool.and_eq_true,List.all_eq_true]at h2
 refine⟨?_,h1.1.2.1,h2.1,λk hk=>⟨?_,h2.2 k hk⟩⟩
 ·unfold lineOf
  exact if_pos ⟨by have:=h1.1.1.1;omega,h1.1.2.1⟩
 ·have:=h1.2.1.2 k hk
  simpa using this
theorem bare_l {l m:List Wd} (hl:l.any marked=false) (hm:m.any marked=false) (h:txs l=txs m):l=m:=by
 rw[(bare_list l).2 hl,(bare_list m).2 hm]
 unfold txs at h
 have:∀l:List Wd,l.map Wd.bare=(l.map Wd.text).map λt=>⟨t,0,0,0⟩:=λl=>by simp[Wd.bare]
 rw[this,this,h]
theorem low_head {n:Nat} {u:U} (h:OkT n u) (r:List (List UInt8)):u.lines n++r=lineT u n::(U.liness (n+1) u.kids++r):=by
 rw[U.lines_eq,h.split.1];rfl
theorem low_liness {n:Nat} {ks:List U} (hk:∀k∈ks,OkT (n+1) k) {r:List (List UInt8)} (hr:Low n r):Low (n+1) (U.liness (n+1) ks++r):=by
 cases ks with
 |nil=>
  intro l hl
  have:=hr l (by simpa[U.liness]using hl)
  omega
 |cons k ks=>
  intro l hl
  rw[U.liness_cons,List.append_assoc,low_head (hk k (by simp))]at hl
  simp only[List.head?_cons,Option.some.injEq]at hl
  rw[←hl,lead_line (hk k (by simp)).split.2.1]
  omega
theorem low_no {n:Nat} {k:U} {ks:List U} (hk:OkT (n+1) k) {r s:List (List UInt8)} (hr:Low n r) (h:r=U.liness (n+1) (k::ks)++s):False:=by
 rw[U.liness_cons,List.append_assoc,low_head hk]at h
 have:=hr _ (by rw[h];rfl)
 rw[lead_line hk.split.2.1]at this
 omega
theorem tree_cut:∀(u v:U) (n:Nat) (r s:List (List UInt8)),OkT n u->OkT n v->Low n r->Low n s->u.lines n++r=v.lines n++s->u=v/\r=s:=by
 refine U.ind λu ih v n r s hu hv hr hs h=>?_
 have list:∀(ks ls:List U),(∀k∈ks,k∈u.kids)->(∀k∈ls,k∈v.kids)->U.liness (n+1) ks++r=U.liness (n+1) ls++s->ks=ls/\r=s:=by
  intro ks
  induction ks with
  |nil=>
   intro ls h1 h2 h
   cases ls with
   |nil=>exact⟨rfl,by simpa[U.liness]using h⟩
   |cons k ls=>exact(low_no (hv.split.2.2.2 k (h2 k (by simp))) hr (by simpa[U.liness]using h)).elim
  |cons a ks ihk=>
   intro ls h1 h2 h
   cases ls with
   |nil=>exact(low_no (hu.split.2.2.2 a (h1 a (by simp))) hs (by simpa[U.liness]using h.symm)).elim
   |cons b ls=>
    have h1':∀k∈ks,k∈u.kids:=λk hk=>h1 k (by simp[hk])
    have h2':∀k∈ls,k∈v.kids:=λk hk=>h2 k (by simp[hk])
    rw[U.liness_cons,U.liness_cons,List.append_assoc,List.append_assoc]at h
    obtain⟨e1,e2⟩:=ih a (h1 a (by simp)) b (n+1) _ _ (hu.split.2.2.2 a (h1 a (by simp))) (hv.split.2.2.2 b (h2 b (by simp))) (low_liness (λk hk=>hu.split.2.2.2 k (h1' k hk)) hr) (low_liness (λk hk=>hv.split.2.2.2 k (h2' k hk)) hs) h
    obtain⟨e3,e4⟩:=ihk ls h1' h2' e2
    exact⟨by rw[e1,e3],e4⟩
 rw[low_head hu,low_head hv]at h
 simp only[List.cons.injEq]at h
 obtain⟨e1,e2⟩:=list u.kids v.kids (λ_ h=>h) (λ_ h=>h) h.2
 obtain⟨_,f1,f2,f3,f4⟩:=line_inj hu.split.2.1 hv.split.2.1 h.1
 have b1:=hu.split.2.2.1
 have b2:=hv.split.2.2.1
 unfold bareNode at b1 b2
 simp only[Bool.and_eq_true,decide_eq_true_eq,Bool.not_eq_true']at b1 b2
 refine⟨?_,e2⟩
 have g1:=bare_l b1.2.1 b2.2.1 f3
 have g2:=bare_l b1.2.2 b2.2.2 f4
 have g0:=b1.1.trans b2.1.symm
 cases u;cases v
 simp only at*
 subst f1 f2 g1 g2 g0 e1
 rfl
theorem line_nl {u:U} (h:alone11 u=true) (n:Nat):∀c∈lineT u n,¬c=10:=by
 have q:=alone_k h
 have hw:∀l:List Wd,(∀w∈l,wordOk w.text=true)->∀c∈wordsT l,¬c=10:=by
  intro l hl c hc e
  unfold wordsT at hc
  obtain⟨w,hw,hc⟩:=List.mem_flatMap.1 hc
  rcases List.mem_cons.1 hc with rfl|hc
  ·cases e
  ·have:=esc_ch (hl w hw) c hc
   rw[e]at this
   simp at this
 intro c hc e
 subst e
 rw[lineT_eq]at hc
 simp only[List.mem_append,List.mem_replicate]at hc
 rcases hc with hc|hc|hc|hc|hc
 ·exact absurd hc.2 (by decide)
 ·have:=(kindNames_low _ (kindText_mem q.1 q.2.1)).2 _ hc
  revert this;decide
 ·unfold labT at hc
  split at hc
  ·cases hc
  ·rename_i hk
   rcases List.mem_cons.1 hc with hc|hc
   ·cases hc
   ·have:=(label_ch (q.2.2.2.1 hk)).2 _ hc
    revert this;decide
 ·unfold hedT at hc
  split at hc
  ·rcases List.mem_cons.1 hc with hc|hc
   ·cases hc
   ·exact hw _ q.2.2.2.2.1 _ hc rfl
  ·cases hc
 ·unfold barT at hc
  split at hc
  ·rcases List.mem_cons.1 hc with hc|hc
   ·cases hc
   rcases List.mem_cons.1 hc with hc|hc
   ·cases hc
   ·exact hw _ q.2.2.2.2.2 _ hc rfl
  ·cases hc
theorem lines_nl:∀(u:U) (n:Nat),OkT n u->∀l∈u.lines n,∀c∈l,¬c=10:=by
 refine U.ind λu ih n hu l hl=>?_
 rw[U.lines_eq,hu.split.1]at hl
 have key:∀ks:List U,(∀k∈ks,k∈u.kids)->l∈U.liness (n+1) ks->∀c∈l,¬c=10:=by
  intro ks
  induction ks with
  |nil=>intro _ hl;simp[U.liness]at hl
  |cons a ks iha=>
   intro h1 hl
   rw[U.liness_cons]at hl
   rcases List.mem_append.1 hl with hl|hl
   ·exact ih a (h1 a (by simp)) (n+1) (hu.split.2.2.2 a (h1 a (by simp))) l hl
   ·exact iha (λk hk=>h1 k (by simp[hk])) hl
 rcases List.mem_cons.1 hl with rfl|hl
 ·exact line_nl hu.split.2.1 n
 ·exact key u.kids (λ_ h=>h) hl
theorem nl_inj:∀{l m:List (List UInt8)},(∀x∈l,∀c∈x,¬c=10)->(∀x∈m,∀c∈x,¬c=10)->(l.flatMap λx=>x++[10])=(m.flatMap λx=>x++[10])->l=m
 |[],[],_,_,_=>rfl
 |[],b::m,_,_,h=>by simp at h
 |a::l,[],_,_,h=>by simp at h
 |a::l,b::m,hl,hm,h=>by
  simp only[List.flatMap_cons,List.append_assoc,List.cons_append,List.nil_append]at h
  obtain⟨h1,h2⟩:=cutP (λc=>¬c=10) (hl a (by simp)) (hm b (by simp)) (λc hc hn=>hn (by simpa using hc.symm)) (λc hc hn=>hn (by simpa using hc.symm)) h
  simp only[List.cons.injEq,true_and]at h2
  rw[h1,nl_inj (λx hx=>hl x (by simp[hx])) (λx hx=>hm x (by simp[hx])) h2]
theorem textT_inj {u v:U} (hu:OkT 0 u) (hv:OkT 0 v) (h:textT u=textT v):u=v:=by
 have h1:=nl_inj (lines_nl u 0 hu) (lines_nl v 0 hv) h
 exact(tree_cut u v 0 [] [] hu hv (λl hl=>by cases hl) (λl hl=>by cases hl) (by rw[h1])).1
theorem unit_ok {u:U} (h:bareOk u=true) (ht:(textOf u).2=0):OkT 0 u:=by
 constructor
 ·unfold textOf at ht
  split at ht
  ·rename_i hs
   unfold shapeOk at hs
   rw[Bool.and_eq_true]at hs
   simpa using hs.1
  ·cases ht
 ·rw[bareOk_two]at h
  unfold bareOk2 at h
  rw[Bool.and_eq_true]at h
  exact h.2
end Go.Av
