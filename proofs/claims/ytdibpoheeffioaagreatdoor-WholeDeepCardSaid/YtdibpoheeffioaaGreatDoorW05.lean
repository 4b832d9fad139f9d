/- Part 5 of the proof that WholeDeep returns true; no condition. -/
import Derived.Test.YtdibpoheeffioaaGreatDoorW04
import Derived.Deep.Slices
import Derived.ChangeArms
import Derived.OpenShut
namespace Go.Proofs.YtdibpoheeffioaaGreatDoor
set_option linter.all false
section
open Go
set_option maxRecDepth 4000
structure DY where
  vv:Nat
  st:Nat
  x:Nat
  e:Nat
  u:Nat
  c:Nat
  ql:Nat
  t:Nat
  zb:Nat
  l:List Nd
  S:List (Value×List Nat)
  ts:List Tr
  cs:List Cm
  ls:List Lk
  gs:List Ly
  lb:List UInt8
  D2:List Fd
  rs:List Rc
abbrev DY.P (y:DY):Nat→List Nat:=fun k=>(y.cs.getD k dCm).ps
structure DeepOk (ss:List Sq) (n z:Nat) (y:DY):Prop where
  U:UpOk y.D2 y.lb y.ts y.cs y.ls y.gs y.zb
  H:LogOk y.rs
  hlb:y.lb=logB y.rs
  hts:y.ts.map (·.es)=treesR y.rs
  hcs:y.cs.map cmP=commitsR y.rs
  tn:y.ts.length=n
  cn:y.cs.length=n
  rn:y.rs.length=2*n
  cm:∀k,k<n→cmP (y.cs.getD k dCm)=(k,parsOf k (ss.getD k dSq).l)
  lbl:y.lb.length≤8100*n
  zb:y.zb≤z
  t:y.t≤2+20*z
  ok:OKc (Gk n y.P) y.l y.S
abbrev dparts (s p bm:Nat) (et:TypeId) (ep:Value) (y:DY):List HProp :=
  [svc s y.vv p y.st y.x y.e y.u y.c 0,cch y.c y.l,RB y.S,viw y.vv y.st y.x,sto y.st p y.ts y.cs,idx y.x p y.ls y.gs,fsh p bm y.t,mpo bm (dm ((logN,y.ql,y.lb)::y.D2)),fls ((logN,y.ql,y.lb)::y.D2),pw10,errG et ep,tabA]
def Deep (s p bm:Nat) (et:TypeId) (ep:Value) (ss:List Sq) (n z:Nat):HProp:=ex fun y:DY=>box (lift (DeepOk ss n z y)::dparts s p bm et ep y)
variable {s p bm n z:Nat} {et:TypeId} {ep:Value} {ss:List Sq}
theorem sat_open_Deep {L:List HProp} {w:World} (h:Sat (Deep s p bm et ep ss n z::L) w):∃y,DeepOk ss n z y∧Sat (dparts s p bm et ep y++L) w:=by
  obtain ⟨y,h⟩:=yb h;obtain ⟨h1,h2⟩:=yn (wF.sat h);exact ⟨y,h1,h2⟩
theorem zM {L:List HProp} {w:World} (y:DY) (h1:DeepOk ss n z y) (h:Sat (dparts s p bm et ep y++L) w):Sat (Deep s p bm et ep ss n z::L) w :=
  (ye (f:=fun y:DY=>box (lift (DeepOk ss n z y)::dparts s p bm et ep y)) y).sat (wi (L:=lift (DeepOk ss n z y)::dparts s p bm et ep y).sat ((yZ h1).sat h))
theorem spec_deep {f:FuncId} {args:Array Value} {X:List HProp→List HProp} {post:Value→List HProp→List HProp→Prop} (he:Enters Tryz.prog f)
    (h:∀y,DeepOk ss n z y→∃(pre:List HProp→List HProp) (post0:Value→List HProp→List HProp→Prop) (Fr:List HProp→List HProp),Spec Tryz.prog f args pre post0∧(∀T w,Sat (dparts s p bm et ep y++X T) w→Sat (pre (Fr T)) w)∧∀r T L,post0 r (Fr T) L→∃L',post r T L'∧∀w,Sat L w→Sat L' w) :
    Spec Tryz.prog f args (fun T=>Deep s p bm et ep ss n z::X T) post:=by
  refine ⟨he,fun T w hw=>?_⟩;obtain ⟨y,h1,h2⟩:=sat_open_Deep hw;obtain ⟨pre,post0,Fr,hs,ha,hb⟩:=h y h1;exact (hs.2 (Fr T) w (ha T w h2)).mono fun e w' ⟨r,L,he,hr,hL⟩=>let ⟨L',hr',hw'⟩:=hb r T L hr;⟨r,L',he,hr',hw' w' hL⟩
theorem DeepOk.use_le {y:DY} (h:DeepOk ss n z y) (hn:n≤150):used ((logN,y.ql,y.lb)::y.D2)+30000≤16777216:=by
  have h1:=h.lbl;have h2:=h.U.x.disk.few;have h3:=used_le h.U.x.disk.size;have h4:=h.U.x.lays.few;have h5:used ((logN,y.ql,y.lb)::y.D2)=y.lb.length+used y.D2:=by simp [used]
  have h6:100000*y.D2.length≤100000*9:=Nat.mul_le_mul_left _ qd;omega
theorem DeepOk.nd {y:DY} (h:DeepOk ss n z y):(((logN,y.ql,y.lb)::y.D2).map (·.1)).Nodup:=h.U.x.disk.nd
theorem DeepOk.ps {y:DY} (h:DeepOk ss n z y) {k:Nat} (hk:k<n):y.P k=parsOf k (ss.getD k dSq).l:=congrArg Prod.snd (h.cm k hk)
theorem j6 {G:ByteArray→Bool→Int→List Nat→Prop} {S:List (Value×List Nat)}:OKc G [] S:=fun x hx=>by cases hx
theorem deep_update (hz:z≤800):Spec Tryz.prog 8 #[ptr s] (fun T=>Deep s p bm et ep ss n z::T) (fun r T L=>r=.int .i64 0∧L=Deep s p bm et ep ss n (z+1)::T) :=
  spec_deep (X:=fun T=>T) ⟨_,Tryz.func8,rfl,rfl⟩ fun y h=>by
    have h1:=h.zb;have h2:=h.t;refine ⟨_,_,fun T=>RB y.S::viw y.vv y.st y.x::tabA::T,sp8 s y.vv p y.st y.x y.e y.u y.c y.l y.zb bm y.t y.ql y.lb y.D2 y.ts y.cs y.ls y.gs et ep h.U qd qd,fun T w hw=>Pm.sat (by simp only [dparts,List.cons_append,List.nil_append];exact qt) w hw,?_⟩;rintro r T L ⟨ls2,gs2,D3,t3,zb2,⟨U2,hz2,ht3⟩,h3,h4⟩;refine ⟨_,⟨h3,rfl⟩,fun w hw=>?_⟩;subst h4;exact zM { y with ls:=ls2,gs:=gs2,D2:=D3,t:=t3,zb:=zb2,l:=[] } ⟨U2,h.H,h.hlb,h.hts,h.hcs,h.tn,h.cn,h.rn,h.cm,h.lbl,by show zb2≤_;omega,by show t3≤_;omega,j6⟩ (Pm.sat (by simp only [dparts,List.cons_append,List.nil_append];exact qt) w hw)
theorem deep_compact (hz:z≤800):Spec Tryz.prog 9 #[ptr s] (fun T=>Deep s p bm et ep ss n z::T) (fun r T L=>r=.int .i64 0∧L=Deep s p bm et ep ss n (z+1)::T) :=
  spec_deep (X:=fun T=>T) ⟨_,Tryz.func9,rfl,rfl⟩ fun y h=>by
    have h1:=h.zb;have h2:=h.t;refine ⟨_,_,fun T=>RB y.S::viw y.vv y.st y.x::tabA::T,sp9 s y.vv p y.st y.x y.e y.u y.c y.l y.zb bm y.t y.ql y.lb y.D2 y.ts y.cs y.ls y.gs et ep h.U qd qd,fun T w hw=>Pm.sat (by simp only [dparts,List.cons_append,List.nil_append];exact qt) w hw,?_⟩;rintro r T L ⟨ls2,gs2,D3,t3,zb2,⟨U2,hz2,ht3⟩,h3,h4⟩;refine ⟨_,⟨h3,rfl⟩,fun w hw=>?_⟩;subst h4;exact zM { y with ls:=ls2,gs:=gs2,D2:=D3,t:=t3,zb:=zb2,l:=[] } ⟨U2,h.H,h.hlb,h.hts,h.hcs,h.tn,h.cn,h.rn,h.cm,h.lbl,by show zb2≤_;omega,by show t3≤_;omega,j6⟩ (Pm.sat (by simp only [dparts,List.cons_append,List.nil_append];exact qt) w hw)
theorem deep_reload:Spec Tryz.prog 10 #[ptr s] (fun T=>Deep s p bm et ep ss n z::T) (fun r T L=>r=.int .i64 0∧L=Deep s p bm et ep ss n z::T) :=
  spec_deep (X:=fun T=>T) ⟨_,Tryz.func10,rfl,rfl⟩ fun y h=>by
    refine ⟨_,_,fun T=>RB y.S::errG et ep::tabA::T,sp10 s y.vv p y.st y.x y.e y.u y.c y.l bm y.t y.ql y.lb y.D2 y.ts y.cs y.ls y.gs h.U.x h.U.le (by have:=h.U.cs;omega),fun T w hw=>Pm.sat (by simp only [dparts,List.cons_append,List.nil_append];exact qt) w hw,?_⟩;rintro r T L ⟨v2,x2,gs2,hS,h3,h4⟩;refine ⟨_,⟨h3,rfl⟩,fun w hw=>?_⟩;subst h4;exact zM { y with vv:=v2,x:=x2,gs:=gs2,l:=[] } ⟨h.U.same hS,h.H,h.hlb,h.hts,h.hcs,h.tn,h.cn,h.rn,h.cm,h.lbl,h.zb,h.t,j6⟩ (Pm.sat (by simp only [dparts,List.cons_append,List.nil_append];exact qt) w hw)
end
section
open Go
set_option maxRecDepth 4000
variable {s p bm n z:Nat} {et:TypeId} {ep:Value} {ss:List Sq}
theorem deep_add (hn:n≤149) (hok:SqOk (ss.getD n dSq)):Spec Tryz.prog 7 #[ptr s,(ss.getD n dSq).agg,.int .i64 n] (fun T=>Deep s p bm et ep ss n z::sTr (ss.getD n dSq)::sPa (ss.getD n dSq)::T) (fun r T L=>r=.bool true∧L=Deep s p bm et ep ss (n+1) z::T) :=
  spec_deep (X:=fun T=>sTr (ss.getD n dSq)::sPa (ss.getD n dSq)::T) ⟨_,Tryz.func7,rfl,rfl⟩ fun y h=>by
    have h1:=h.tn;have h2:=h.cn;have h3:=h.lbl;obtain ⟨hgc,hgl⟩:=goodC_pars (n:=n) (ss.getD n dSq).l qd;refine ⟨_,_,fun T=>RB y.S::viw y.vv y.st y.x::idx y.x p y.ls y.gs::pw10::errG et ep::tabA::T,sp7 s y.vv p y.st y.x y.e y.u y.c bm y.t y.ql y.lb y.D2 y.ts y.cs n (ss.getD n dSq) hok h1 h2 qd h.nd (h.use_le qd) y.l,fun T w hw=>Pm.sat (by simp only [dparts,List.cons_append,List.nil_append];exact qt) w hw,?_⟩;rintro r T L ⟨tr,cm,hG,htb,hcm,h4,h5⟩;refine ⟨_,⟨h4,rfl⟩,fun w hw=>?_⟩;subst h5;have e1:cm.tree=n:=congrArg Prod.fst hcm;have e2:cm.ps=parsOf n (ss.getD n dSq).l:=congrArg Prod.snd hcm;have hcl:=xX n (parsOf n (ss.getD n dSq).l);have h16:=hgc.len;have hlen:(y.lb++frameB 1 (treeB tr.es)++frameB 2 (commitB n (parsOf n (ss.getD n dSq).l))).length≤8100*(n+1):=by
      rw [List.length_append,List.length_append,ym,ym];omega
    have hS:StoOk (y.ts++[tr]) (y.cs++[cm]):=h.U.s.add qd qd hG (by rw [e2];exact h16) (by rw [e2];exact hgc.nodup) (fun x hx=>by rw [e2] at hx;rw [h2];exact hgl x hx) qd;have ht:(treesR y.rs).length=n:=by rw [←h.hts,List.length_map];exact h1
    have hc:(commitsR y.rs).length=n:=by rw [←h.hcs,List.length_map];exact h2
    simp only [dm,List.map_cons] at hw;refine zM { y with ts:=y.ts++[tr],cs:=y.cs++[cm],lb:=y.lb++frameB 1 (treeB tr.es)++frameB 2 (commitB n (parsOf n (ss.getD n dSq).l)),rs:=y.rs++[.t tr.es,.c n (parsOf n (ss.getD n dSq).l)],l:=[] }
      ⟨h.U.add hS (Nat.le_trans hlen qd) qd,h.H.add hG htb hgc qd (fun x hx=>by rw [hc];exact hgl x hx) (by have:=h.rn;omega) (by rw [←h.hlb];omega),by show _=logB _;rw [logB_two,←h.hlb],
        by show (y.ts++[tr]).map _=treesR (y.rs++_);rw [List.map_append,treesR_app,h.hts];rfl,by show (y.cs++[cm]).map cmP=commitsR (y.rs++_);rw [List.map_append,vn,h.hcs,List.map_cons,hcm];rfl,
        by show (y.ts++[tr]).length=_;simp;omega,by show (y.cs++[cm]).length=_;simp;omega,by show (y.rs++_).length=_;have:=h.rn;simp;omega,fun k hk=>?_,hlen,h.zb,h.t,j6⟩ (Pm.sat (by simp only [dparts,List.cons_append,List.nil_append,dm,List.map_cons];exact qt) w hw)
    show cmP ((y.cs++[cm]).getD k dCm)=_
    by_cases e:k<n
    · rw [xg qd];exact h.cm k e
    · obtain rfl:k=n:=by omega
      have:(y.cs++[cm]).getD k dCm=cm:=by rw [←h2];exact xK
      rw [this];exact hcm
def PPs (ss:List Sq) (n:Nat):Nat→List Nat:=fun k=>if k<n then parsOf k (ss.getD k dSq).l else []
theorem DeepOk.PP {y:DY} (h:DeepOk ss n z y):y.P=PPs ss n:=funext fun k=>by
  unfold PPs
  by_cases e:k<n
  · rw [if_pos e];exact h.ps e
  · rw [if_neg e];show (y.cs.getD k dCm).ps=[]
    rw [List.getD_eq_getElem?_getD,List.getElem?_eq_none (by have:=h.cn;omega)];rfl
theorem jS (q:Qn) (ai:Option Addr) (ci:Nat) (hq:q.ok) (hl:q.ids.length≤1000) (Lk:∀(vv:Nat) (gn:Nat→Nat) (A:HProp),SrcOk vv n (PPs ss n) gn A→Lk54 vv A q ai ci (Gk n (PPs ss n))) :
    Spec Tryz.prog 11 #[ptr s,q.agg ai q.ids.length ci] (fun T=>Deep s p bm et ep ss n z::rdi ai q.ids.length ci q.ids::T)
      (fun r T L=>∃y er ids i2 n2 c2 ta tc,Right n (PPs ss n) q y er ids∧ids.length=n2∧r=.agg #[.int .i64 er,.bool y,.int .i64 0,.slice i2 n2 c2,.slice ta 0 tc]∧L=rdi i2 n2 c2 ids::Deep s p bm et ep ss n z::T) :=
  spec_deep (X:=fun T=>rdi ai q.ids.length ci q.ids::T) ⟨_,Tryz.func11,rfl,rfl⟩ fun y h=>by
    have hP:=h.PP;have hok:=h.ok;rw [hP] at hok;have K:=src_view (v:=y.vv) (q:=y.st) (x:=y.x) (p:=p) h.U.vw;rw [h.cn,show (fun k=>(y.cs.getD k dCm).ps)=PPs ss n from hP] at K;refine ⟨_,_,fun T=>fsh p bm y.t::mpo bm (dm ((logN,y.ql,y.lb)::y.D2))::fls ((logN,y.ql,y.lb)::y.D2)::pw10::errG et ep::T,sp11 s y.vv p y.st y.x y.e y.u y.c (vws y.vv y.st y.x p y.ts y.cs y.ls y.gs) q ai ci hq hl (Gk n (PPs ss n)) y.l y.S hok (Lk _ _ _ K),fun T w hw=>?_,?_⟩
    · have h1:Sat (viw y.vv y.st y.x::sto y.st p y.ts y.cs::idx y.x p y.ls y.gs::svc s y.vv p y.st y.x y.e y.u y.c 0::cch y.c y.l::RB y.S::tabA::rdi ai q.ids.length ci q.ids::fsh p bm y.t::mpo bm (dm ((logN,y.ql,y.lb)::y.D2))::fls ((logN,y.ql,y.lb)::y.D2)::pw10::errG et ep::T) w:=Pm.sat (by simp only [dparts,List.cons_append,List.nil_append];exact qt) w hw;have h2:Sat (vws y.vv y.st y.x p y.ts y.cs y.ls y.gs::svc s y.vv p y.st y.x y.e y.u y.c 0::cch y.c y.l::RB y.S::tabA::rdi ai q.ids.length ci q.ids::fsh p bm y.t::mpo bm (dm ((logN,y.ql,y.lb)::y.D2))::fls ((logN,y.ql,y.lb)::y.D2)::pw10::errG et ep::T) w:=wi (L:=[_,_,_]).sat h1;exact Pm.sat qt w h2
    · rintro r T L ⟨l1,S1,b,er,ids,i2,n2,c2,ta,tc,hOK,hG,hlen,h3,h4⟩;refine ⟨_,⟨b,er,ids,i2,n2,c2,ta,tc,hG q hq rfl,hlen,h3,rfl⟩,fun w hw=>?_⟩;subst h4;have h1:Sat (vws y.vv y.st y.x p y.ts y.cs y.ls y.gs::svc s y.vv p y.st y.x y.e y.u y.c 0::cch y.c l1::RB S1::tabA::rdi i2 n2 c2 ids::fsh p bm y.t::mpo bm (dm ((logN,y.ql,y.lb)::y.D2))::fls ((logN,y.ql,y.lb)::y.D2)::pw10::errG et ep::T) w:=Pm.sat qt w hw;have h2:Sat (viw y.vv y.st y.x::sto y.st p y.ts y.cs::idx y.x p y.ls y.gs::svc s y.vv p y.st y.x y.e y.u y.c 0::cch y.c l1::RB S1::tabA::rdi i2 n2 c2 ids::fsh p bm y.t::mpo bm (dm ((logN,y.ql,y.lb)::y.D2))::fls ((logN,y.ql,y.lb)::y.D2)::pw10::errG et ep::T) w:=wF.sat h1;have h5:=zM (s:=s) (p:=p) (bm:=bm) (et:=et) (ep:=ep) (L:=rdi i2 n2 c2 ids::T) { y with l:=l1,S:=S1 } ⟨h.U,h.H,h.hlb,h.hts,h.hcs,h.tn,h.cn,h.rn,h.cm,h.lbl,h.zb,h.t,by show OKc (Gk n y.P) l1 S1;rw [hP];exact hOK⟩ (Pm.sat (by simp only [dparts,List.cons_append,List.nil_append];exact qt) w h2);exact Ent.swap.sat h5
end
section
open Go
set_option maxRecDepth 4000
variable {s p bm n z:Nat} {et:TypeId} {ep:Value} {ss:List Sq}
theorem zD {α β:Type} (f:α→β) (l:List α) (k:Nat) (d:α):(l.map f).getD k (f d)=f (l.getD k d):=by
  rw [List.getD_eq_getElem?_getD,List.getD_eq_getElem?_getD,List.getElem?_map];cases l[k]?<;>rfl
theorem UpOk.recs {D2:List Fd} {lb:List UInt8} {ts ts2:List Tr} {cs cs2:List Cm} {ls:List Lk} {gs:List Ly} {zb:Nat} (U:UpOk D2 lb ts cs ls gs zb) (ht:ts2.map (·.es)=ts.map (·.es)) (hc:cs2.map cmP=cs.map cmP):UpOk D2 lb ts2 cs2 ls gs zb:=by
  have l1:ts2.length=ts.length:=by have:=congrArg List.length ht;simpa using this
  have l2:cs2.length=cs.length:=by have:=congrArg List.length hc;simpa using this
  have e1:∀k,(ts2.getD k dTr).es=(ts.getD k dTr).es:=fun k=>by rw [←zD (fun t:Tr=>t.es),←zD (fun t:Tr=>t.es),ht]
  have e2:∀k,cmP (cs2.getD k dCm)=cmP (cs.getD k dCm):=fun k=>by rw [←zD cmP,←zD cmP,hc]
  have e3:∀k,(cs2.getD k dCm).ps=(cs.getD k dCm).ps:=fun k=>congrArg Prod.snd (e2 k);have e4:∀k,(cs2.getD k dCm).tree=(cs.getD k dCm).tree:=fun k=>congrArg Prod.fst (e2 k);refine ⟨U.x,⟨by rw [l1];exact U.s.lt,by rw [l2];exact U.s.lc,fun k hk=>by rw [e1];exact U.s.tree k qd,fun k hk=>by rw [e3];exact U.s.len k qd,fun k hk=>by rw [e3];exact U.s.nodup k qd,fun k hk=>by rw [e3];exact U.s.up k qd,fun k hk=>by rw [e4,l1];exact U.s.has k qd⟩,
    ⟨by rw [l2];exact U.fit.len,fun j hj=>by rw [e3];exact U.fit.ps j hj,fun j hj=>by rw [e4];exact U.fit.tree j hj,U.fit.fil,U.fit.gen,U.fit.lt⟩,U.num,U.zb,U.log,by rw [l2];exact U.cs⟩
theorem DeepOk.nil {y:DY} (h:DeepOk ss n z y):lookL (dm ((logN,y.ql,y.lb)::y.D2)) ⟨#[]⟩=none:=jm fun d hd e=>by
  rcases List.mem_cons.1 hd with rfl | hd
  · exact absurd (show logN=⟨#[]⟩ from e) (by decide)
  · rcases h.U.x.disk.name d hd with h1 | ⟨l,_,h1⟩
    · rw [h1] at e;exact absurd e (by decide)
    · rw [h1] at e;exact gname_nil _ e
theorem deep_open:Spec Tryz.prog 14 #[ptr p] (fun T=>Deep s p bm et ep ss n z::T) (fun r T L=>∃s2,r=ptr s2∧L=Deep s2 p bm et ep ss n z::T) :=
  spec_deep (X:=fun T=>T) ⟨_,Tryz.func14,rfl,rfl⟩ fun y h=>by
    refine ⟨_,_,fun T=>errG et ep::tabA::T,sp14y p bm y.t y.ql y.lb y.D2 y.rs h.H h.hlb h.nd h.nil y.ls y.gs h.U.x (by have h1:=congrArg List.length h.hcs;rw [List.length_map] at h1;rw [←h1];exact h.U.le),fun T w hw=>Pm.sat (by simp only [dparts,List.cons_append,List.nil_append];exact qt) w hw,?_⟩;rintro r T L ⟨s2,v,st,x,e,u,c,gs2,ts,cs,⟨hS,hts,hcs⟩,h3,h4⟩;refine ⟨_,⟨s2,h3,rfl⟩,fun w hw=>?_⟩;subst h4;have ht:ts.map (·.es)=y.ts.map (·.es):=hts.trans h.hts.symm;have hc:cs.map cmP=y.cs.map cmP:=hcs.trans h.hcs.symm;have l1:ts.length=y.ts.length:=by have:=congrArg List.length ht;simpa using this
    have l2:cs.length=y.cs.length:=by have:=congrArg List.length hc;simpa using this
    have h5:Sat (RB []::svc s2 v p st x e u c 0::cch c []::viw v st x::idx x p y.ls gs2::sto st p ts cs::fsh p bm y.t::mpo bm (dm ((logN,y.ql,y.lb)::y.D2))::fls ((logN,y.ql,y.lb)::y.D2)::pw10::errG et ep::tabA::T) w:=(wi (L:=[])).sat hw;exact zM { vv:=v,st:=st,x:=x,e:=e,u:=u,c:=c,ql:=y.ql,t:=y.t,zb:=y.zb,l:=[],S:=[],ts:=ts,cs:=cs,ls:=y.ls,gs:=gs2,lb:=y.lb,D2:=y.D2,rs:=y.rs }
      ⟨(h.U.same hS).recs ht hc,h.H,h.hlb,hts,hcs,l1.trans h.tn,l2.trans h.cn,h.rn,fun k hk=>by show cmP (cs.getD k dCm)=_;rw [←zD cmP,hc,zD cmP];exact h.cm k hk,h.lbl,h.zb,h.t,j6⟩ (Pm.sat (by simp only [dparts,List.cons_append,List.nil_append];exact qt) w h5)
theorem deep_serving:Spec Tryz.prog 4 #[] (fun T=>pw10::errG et ep::tabA::T) (fun r T L=>∃p bm s,r=.tuple #[ptr p,ptr s]∧L=Deep s p bm et ep ss 0 0::T) :=
  Spec.cv (sp4 xok_nil) (fun T=>errG et ep::tabA::T) (fun T w hw=>hw) fun r T L ⟨p,bm,s,v,st,x,e,u,c,gs2,ql,hS,h1,h2⟩=>⟨_,⟨p,bm,s,h1,rfl⟩,fun w hw=>by
    subst h2;obtain rfl:gs2=[]:=List.length_eq_zero_iff.1 hS.len;have h5:Sat (RB []::svc s v p st x e u c 0::cch c []::viw v st x::idx x p [] []::sto st p [] []::fsh p bm 2::mpo bm (dm [(logN,ql,[])])::fls [(logN,ql,[])]::pw10::errG et ep::tabA::T) w:=(wi (L:=[])).sat hw;exact zM { vv:=v,st:=st,x:=x,e:=e,u:=u,c:=c,ql:=ql,t:=2,zb:=0,l:=[],S:=[],ts:=[],cs:=[],ls:=[],gs:=[],lb:=[],D2:=[],rs:=[] }
      ⟨upok_nil,⟨fun k h=>(by cases h),by simp,by simp [logB]⟩,rfl,rfl,rfl,rfl,rfl,rfl,fun k h=>(by cases h),by simp,by simp,by simp,j6⟩ (Pm.sat (by simp only [dparts,List.cons_append,List.nil_append];exact qt) w h5)⟩
end
section
open Go
set_option maxRecDepth 4000
theorem qt_neqB {P:Program} {x y:Operand} {T ty:TypeId} {v:Env} {L:List HProp} {yt:TypeId} {b c:Bool} [hu:TU P T .bool] (hx:evalE v x=.bool b) (hy:evalE v y=.bool c):Qt P (.binOp .neq T x y yt) ty v L (.bool (decide (b≠c))):=fun _ _ _ _ w _=>by
  have h0:∀d',(Op.equalIn (d'+1) T (.bool b) (.bool c)).run P w=.ok (b == c) w:=fun d'=>by simp [Op.equalIn,hu.u]
  have h:(Op.equal T (.bool b) (.bool c)).run P w=.ok (b == c) w:=h0 9999;have h2:binOp .neq T (.bool b) (.bool c)=(do pure (.bool (!(←Op.equal T (.bool b) (.bool c)))):Sem Value):=rfl;have h3:eqGuard .neq T x y (.bool b) (.bool c)=pure ():=rfl;simp only [execOp,hx,hy,h3,h2,Sem.run_bind,h,Sem.run_pure,Result.andThen_ok];cases b<;>cases c<;>rfl
theorem sp12t (a b:Option Addr) (n n2 ca cb:Nat) (xs ys:List Nat) (hn:xs.length=n) (hn2:ys.length=n2) (hb:n≤1000000) (he:xs=ys):Spec Tryz.prog 12 #[.slice a n ca,.slice b n2 cb] (fun T=>rdi a n ca xs::rdi b n2 cb ys::T) (fun r T L=>r=.bool true∧L=rdi a n ca xs::rdi b n2 cb ys::T) :=
  (sp12 a b n n2 ca cb xs ys hn hn2 hb).mono (fun _ _ h=>h) fun r T L ⟨h1,h2⟩=>⟨L,⟨by rw [h1,decide_eq_true he],h2⟩,fun _ h=>h⟩
def pcells (ps:List (Nat×Nat)):List Value:=ps.flatMap fun e=>[.int .u16 e.1,.int .u16 e.2]
theorem je:∀ps:List (Nat×Nat),(pcells ps).length=ps.length*2
  | []=>rfl
  | e::es=>by
    have:=je es;simp only [pcells,List.flatMap_cons,List.length_append,List.length_cons,List.length_nil] at this ⊢;omega
theorem pcells_at:∀(ps:List (Nat×Nat)) (k j:Nat),k<ps.length→j<2→(pcells ps)[k*2+j]?=([.int .u16 (ps.getD k (0,0)).1,.int .u16 (ps.getD k (0,0)).2]:List Value)[j]?
  | c::cs,0,j,_,hj=>by
    rw [Nat.zero_mul,Nat.zero_add,pcells,List.flatMap_cons,List.getElem?_append_left (by simpa using hj)];rfl
  | c::cs,k+1,j,h,hj=>by
    have:=pcells_at cs k j (by simpa using h) hj;rw [show (k+1)*2+j=k*2+j+2 by omega,pcells,List.flatMap_cons,List.getElem?_append_right (by simp)];exact this
theorem sat_p2 {l:List Value} {off n k:Nat} {ps:List (Nat×Nat)} (hn:ps.length=n) (hl:∀i,i<(pcells ps).length→l[off+i]?=(pcells ps)[i]?) (hk:k<n):∀j,j<2→l[off+k*2+j]?=([.int .u16 (ps.getD k (0,0)).1,.int .u16 (ps.getD k (0,0)).2]:List Value)[j]?:=fun j hj=>by
  rw [Nat.add_assoc,hl _ (by rw [je];omega)];exact pcells_at ps k j qd hj
theorem pars_up (ss:List Sq) (n:Nat):(∀k,∀x∈PPs ss n k,x<k)∧∀k,(PPs ss n k).length≤16:=by
  refine ⟨fun k x hx=>?_,fun k=>?_⟩<;>unfold PPs at *
  · split at hx
    · exact (vr k _ _ (Nat.min_le_left _ _)).2.2 x hx
    · cases hx
  · split
    · have:=(vr k (ss.getD k dSq).l _ (Nat.min_le_left _ 16)).1;unfold parsOf;omega
    · simp
theorem listS_ext {n:Nat} {F G:Nat→Bool} (h:∀j,F j=true↔G j=true):listS n F=listS n G:=by
  rw [show F=G from funext fun j=>Bool.eq_iff_iff.2 (h j)]
theorem sp3 (n0 sc q0 qc:Nat) (sa qa:Option Addr) (ss:List Sq) (prs:List (Nat×Nat)) (et:TypeId) (ep:Value) (hn0:ss.length=n0) (hq0:prs.length=q0) (hb:n0≤9223372036854775807) (hbq:q0≤9223372036854775807) (hok:∀k,k<n0→SqOk (ss.getD k dSq)) (hpr:∀e∈prs,e.1<65536∧e.2<65536):Spec Tryz.prog 3 #[.slice sa n0 sc,.slice qa q0 qc]
    (fun T=>rds (.slice sa n0 sc) 5 (scells ss)::box (ss.map sTr)::box (ss.map sPa)::rds (.slice qa q0 qc) 2 (pcells prs)::pw10::errG et ep::tabA::T) (fun r T L=>r=.bool true∧L=T):=by
  refine spec_of (n:=202) (args:=[.slice sa n0 sc,.slice qa q0 qc]) Tryz.func3 rfl rfl rfl rfl fun T=>?_;refine yg (zh (k:=5) (xs:=scells ss) qr) fun hcs=>?_;refine yg (zh (k:=2) (xs:=pcells prs) qr) fun hcq=>?_;obtain ⟨n,hn⟩:∃n,n=min n0 150:=⟨_,rfl⟩
  obtain ⟨qn,hqn⟩:∃qn,qn=min q0 200:=⟨_,rfl⟩
  refine qw (qu (qo (qx (qv (qw (wg [] _ mixed (fun w h=>h) 12 rfl ?_))))));refine qk 0 rfl (qK qg) ?_;refine qk 1 rfl (qK qg) ?_;refine qk 2 rfl (qI rfl) ?_;refine qk 3 rfl (yE (r:=(n:Int)) rfl rfl (by split<;>omega)) ?_;refine qk 4 rfl (xW rfl rfl rfl qd) ?_;refine qk 5 rfl (qK qg) ?_;refine qk 6 rfl (qK qg) ?_;refine qk 7 rfl (qI rfl) ?_;refine qk 8 rfl (yE (r:=(qn:Int)) rfl rfl (by split<;>omega)) ?_;refine qk 9 rfl (xW rfl rfl rfl qd) ?_;refine qk 10 rfl (xh qg) ?_;refine qk 11 rfl (xh qg) ?_;refine qY qj ?_;refine qv (qw (qu ?_));refine qC rfl (qH qh (deep_serving (et:=et) (ep:=ep) (ss:=ss)) rfl ?_);rintro _ _ ⟨p,bm,s,rfl,rfl⟩;refine qe ?_;refine qb (qP rfl) ?_;refine qb (qP rfl) ?_;refine qi ?_;refine qi ?_;refine qx (qv (qw (qw (qu (qe ?_)))));refine qb (wd rfl rfl) ?_;refine qx (qv (qB rfl ?_));refine qF (qv (qw (qu (qe ?_))));refine qC rfl (qH qh (sp5 n n0 sc sa ss hn0 qd qd (fun k hk=>hok k qd)) rfl ?_);rintro _ _ ⟨ga,gc,gls,ta,tc,hgl,hgP,rfl,rfl⟩;refine qe ?_;refine qb (qP rfl) ?_;refine qb (qP rfl) ?_;refine qi ?_;refine qi ?_;refine qx (qv (qw (qu (qe ?_))));refine qC rfl (qH qh (sp6 n gc ga gls (PPs ss n) (fun k hk=>by rw [hgP k hk];unfold PPs;rw [if_pos hk]) (pars_up ss n).1 hgl qd (pars_up ss n).2) rfl ?_);rintro _ _ ⟨ra,rc,rls,hrl,hR,rfl,rfl⟩;refine qi ?_;refine qx (qv (qw (qw (qu (qe ?_)))));refine qb (qI rfl) ?_;refine qb wH ?_;refine qx (qv (qJ (q7 (fun m v L=>∃(i z:Nat),n-i=m∧(∃v0,v=ups v0 [(0,.slice sa n sc),(1,.slice qa qn qc),(5,ptr p),(9,.slice ra n rc),(6,ptr s),(46,.slice sa n sc),(47,.int .i64 n),(48,.int .i64 i)])∧(i≤n)∧(z≤i)∧L=Deep s p bm et ep ss i z::rds (.slice sa n0 sc) 5 (scells ss)::box (ss.map sTr)::box (ss.map sPa)::rds (.slice ra n rc) 1 (rls.map (rsl n))::box (rls.map (rrd n))::rds (.slice qa q0 qc) 2 (pcells prs)::T) _ _ ⟨0,0,rfl,⟨_,At.eq (.cons rfl (.cons rfl (.cons rfl (.cons rfl (.cons rfl (.cons rfl (.cons rfl (.cons rfl .nil))))))))⟩,by omega,by omega,rfl⟩ qh ?_)));rintro m _ _ ⟨i,z,rfl,⟨v0,rfl⟩,hi,hz,rfl⟩;refine qw (qu ?_);refine wG rfl (wj rfl rfl) (fun h49=>?_) (fun h49=>?_)
  · refine wE (fun w h=>w7 (f:=sTr) (l:=ss) (k:=i) (d:=dSq) sTr_rds qr qd h) ?_;refine wE (fun w h=>w7 (f:=sPa) (l:=ss) (k:=i) (d:=dSq) sPa_rds qr qd h) ?_;refine wK (a:=sa) (xs:=scells ss) qr (by rw [ze];omega) fun b off l E fz ha hl=>?_;subst ha;refine qx (qv (qw (qN rfl ?_)));refine qF (qv (qw (qJ (qw (qu (qe ?_))))));refine qb (wN rfl rfl rfl qd) ?_;refine qb (wD (rs:=[.slice (ss.getD i dSq).ta (ss.getD i dSq).es.length (ss.getD i dSq).tc,.slice (ss.getD i dSq).pa (ss.getD i dSq).l.length (ss.getD i dSq).pc,.int .u8 (ss.getD i dSq).ix.toNat,.int .u8 (ss.getD i dSq).nb.toNat,.int .u16 (ss.getD i dSq).w]) rfl rfl (sat_l5 hn0 hl qd)) ?_;refine qC rfl (qZ fun b11=>?_);refine qi ?_;refine q6 (wc rfl rfl rfl rfl ?_);refine qx (qv (qw (qw (qu (qe ?_)))));refine qb (wm rfl) ?_;refine qe ?_;refine qC rfl (qH qh (deep_add (s:=s) (p:=p) (bm:=bm) (z:=z) (et:=et) (ep:=ep) (ss:=ss) (n:=i) qd (hok i qd)) rfl ?_);rintro _ _ ⟨rfl,rfl⟩;refine qb (xe rfl) ?_;refine qx (qv (qB rfl ?_));refine qF (qv (qw (qu (qo (qx (qv (qw ?_)))))));refine qw (qu (qb (qE rfl) ?_));refine qb (qA rfl) ?_;refine qb (yT (m:=(ss.getD i dSq).ix.toNat) (j:=24) rfl rfl rfl (by decide) rfl) ?_;refine qx (qv (qJ (qw (qw (qu ?_)))));refine wG rfl (wA rfl rfl) (fun h62=>?_) (fun h62=>?_)
    · refine qi ?_;refine qx (qv (qN rfl ?_));refine qF (qv (qN rfl ?_));refine qu (qe ?_);refine qC rfl (qH qh (deep_update (s:=s) (p:=p) (bm:=bm) (et:=et) (ep:=ep) (ss:=ss) (n:=i+1) (z:=z) qd) rfl ?_);rintro _ _ ⟨rfl,rfl⟩;refine qi ?_;refine qx (qX (qv (qw (qu (qe ?_)))));refine wq rfl (wB rfl rfl) (by simp) ?_;refine qx (qv (qB rfl ?_));refine qF (qX (qv (qu (qb (wa rfl rfl qd) ?_))));refine qe ?_;refine qx ?_;refine qT _ _ ⟨i+1,z+1,rfl,⟨_,At.eq (.cons rfl (.cons rfl (.cons rfl (.cons rfl (.cons rfl (.cons rfl (.cons rfl (.cons rfl .nil))))))))⟩,by omega,by omega,rfl⟩ qd qh
    · refine qi ?_;refine qx (qv (qB rfl ?_));refine qu ?_;refine wG rfl (wA rfl rfl) (fun h63=>?_) (fun h63=>?_)
      · refine qi ?_;refine qx (qv (qN rfl ?_));refine qu (qe ?_);refine qC rfl (qH qh (deep_update (s:=s) (p:=p) (bm:=bm) (et:=et) (ep:=ep) (ss:=ss) (n:=i+1) (z:=z) qd) rfl ?_);rintro _ _ ⟨rfl,rfl⟩;refine qi ?_;refine qx (qX (qv (qw (qu (qe ?_)))));refine wq rfl (wB rfl rfl) (by simp) ?_;refine qx (qv (qB rfl ?_));refine qF (qX (qv (qu (qb (wa rfl rfl qd) ?_))));refine qe ?_;refine qx ?_;refine qT _ _ ⟨i+1,z+1,rfl,⟨_,At.eq (.cons rfl (.cons rfl (.cons rfl (.cons rfl (.cons rfl (.cons rfl (.cons rfl (.cons rfl .nil))))))))⟩,by omega,by omega,rfl⟩ qd qh
      · refine qi ?_;refine qx (qv (qB rfl ?_));refine qw (qu ?_);refine wG rfl (wA rfl rfl) (fun h67=>?_) (fun h67=>?_)
        · refine qi ?_;refine qx (qv (qN rfl ?_));refine qu (qe ?_);refine qC rfl (qH qh (deep_compact (s:=s) (p:=p) (bm:=bm) (et:=et) (ep:=ep) (ss:=ss) (n:=i+1) (z:=z) qd) rfl ?_);rintro _ _ ⟨rfl,rfl⟩;refine qi ?_;refine qx (qX (qv (qw (qu (qe ?_)))));refine wq rfl (wB rfl rfl) (by simp) ?_;refine qx (qv (qB rfl ?_));refine qF (qX (qv (qu (qb (wa rfl rfl qd) ?_))));refine qe ?_;refine qx ?_;refine qT _ _ ⟨i+1,z+1,rfl,⟨_,At.eq (.cons rfl (.cons rfl (.cons rfl (.cons rfl (.cons rfl (.cons rfl (.cons rfl (.cons rfl .nil))))))))⟩,by omega,by omega,rfl⟩ qd qh
        · refine qi ?_;refine qx (qv (qB rfl ?_));refine qw (qu ?_);refine wG rfl (wA rfl rfl) (fun h71=>?_) (fun h71=>?_)
          · refine qi ?_;refine qx (qv (qN rfl ?_));refine qu (qe ?_);refine qC rfl (qH qh (deep_reload (s:=s) (p:=p) (bm:=bm) (et:=et) (ep:=ep) (ss:=ss) (n:=i+1) (z:=z)) rfl ?_);rintro _ _ ⟨rfl,rfl⟩;refine qi ?_;refine qx (qX (qv (qw (qu (qe ?_)))));refine wq rfl (wB rfl rfl) (by simp) ?_;refine qx (qv (qB rfl ?_));refine qF (qX (qv (qu (qb (wa rfl rfl qd) ?_))));refine qe ?_;refine qx ?_;refine qT _ _ ⟨i+1,z,rfl,⟨_,At.eq (.cons rfl (.cons rfl (.cons rfl (.cons rfl (.cons rfl (.cons rfl (.cons rfl (.cons rfl .nil))))))))⟩,by omega,by omega,rfl⟩ qd qh
          · refine qi ?_;refine qx (qv (qB rfl ?_));refine qF (qX (qv (qw (qu (qe ?_)))));refine wq rfl (wB rfl rfl) (by simp) ?_;refine qx (qv (qB rfl ?_));refine qF (qX (qv (qu (qb (wa rfl rfl qd) ?_))));refine qe ?_;refine qx ?_;refine qT _ _ ⟨i+1,z,rfl,⟨_,At.eq (.cons rfl (.cons rfl (.cons rfl (.cons rfl (.cons rfl (.cons rfl (.cons rfl (.cons rfl .nil))))))))⟩,by omega,by omega,rfl⟩ qd qh
  · obtain rfl:n=i:=by omega
    refine qx (qv (qw (qB rfl ?_)));refine wk ?_;refine qQ (qQ (ww ?_));refine qv (qw (qw (qu (qb wH ?_))));refine qx (qv (qJ (q7 (fun m v L=>∃(rd s2:Nat),2-rd=m∧(∃v0,v=ups v0 [(0,.slice sa n sc),(1,.slice qa qn qc),(5,ptr p),(9,.slice ra n rc),(6,ptr s2),(77,.int .i64 rd)])∧(rd≤2)∧L=Deep s2 p bm et ep ss n z::rds (.slice sa n0 sc) 5 (scells ss)::box (ss.map sTr)::box (ss.map sPa)::rds (.slice ra n rc) 1 (rls.map (rsl n))::box (rls.map (rrd n))::rds (.slice qa q0 qc) 2 (pcells prs)::T) _ _ ⟨0,s,rfl,⟨_,At.eq (.cons rfl (.cons rfl (.cons rfl (.cons rfl (.cons rfl (.cons rfl .nil))))))⟩,by omega,rfl⟩ qh ?_)));rintro m _ _ ⟨rd,s2,rfl,⟨v0,rfl⟩,hrd,rfl⟩;refine qw (qu ?_);refine wG rfl (wj rfl rfl) (fun h78=>?_) (fun h78=>?_)
    · refine qx (qv (qw (qN rfl ?_)));refine qF (qv (qw (qJ (qw (qw (qu (qe ?_)))))));refine qb (qI rfl) ?_;refine qb wH ?_;refine qx (qv (qJ (q7 (fun m v L=>∃(w2:Nat),qn-w2=m∧(∃v0,v=ups v0 [(0,.slice sa n sc),(1,.slice qa qn qc),(5,ptr p),(9,.slice ra n rc),(6,ptr s2),(77,.int .i64 rd),(79,.slice qa qn qc),(80,.int .i64 qn),(81,.int .i64 w2)])∧(w2≤qn)∧L=Deep s2 p bm et ep ss n z::rds (.slice sa n0 sc) 5 (scells ss)::box (ss.map sTr)::box (ss.map sPa)::rds (.slice ra n rc) 1 (rls.map (rsl n))::box (rls.map (rrd n))::rds (.slice qa q0 qc) 2 (pcells prs)::T) _ _ ⟨0,rfl,⟨_,At.eq (.cons rfl (.cons rfl (.cons rfl (.cons rfl (.cons rfl (.cons rfl (.cons rfl (.cons rfl (.cons rfl .nil)))))))))⟩,by omega,rfl⟩ qh ?_)));rintro m _ _ ⟨w2,rfl,⟨v0,rfl⟩,hw2,rfl⟩;refine qw (qu ?_);refine wG rfl (wj rfl rfl) (fun h82=>?_) (fun h82=>?_)
      · have hpe:=hpr _ (w6 (d:=(0,0)) (k:=w2) (show w2<prs.length by omega));refine wK (a:=qa) (xs:=pcells prs) qr (by rw [je];omega) fun bp offp lp Ep fp hap hlp=>?_;subst hap;refine qx (qv (qw (qN rfl ?_)));refine qF (qv (qw (qJ (qw (qu (qb (wN rfl rfl rfl qd) ?_))))));refine qb (wD (rs:=[.int .u16 (prs.getD w2 (0,0)).1,.int .u16 (prs.getD w2 (0,0)).2]) rfl rfl (sat_p2 hq0 hlp qd)) ?_;refine qC rfl (qZ fun b14=>?_);refine q6 (wc rfl rfl rfl rfl ?_);refine qx (qv (qw (qw (qu (qe ?_)))));refine qb (qI rfl) ?_;refine wG rfl (wA rfl rfl) (fun h87=>?_) (fun h87=>?_)
        · refine qx (qv (qN rfl ?_));refine wk ?_;refine qQ (px_miss rfl ?_);refine qQ (qQ (ww ?_));refine qv (qw (qw (qu (qe ?_))));refine qe ?_;refine qb (qI rfl) ?_;refine qb (wy (.one qg rfl (.one qg rfl .nil))) ?_;refine wE (fun w h=>jl h) ?_;refine qC rfl (qH qh (jS (s:=s2) (p:=p) (bm:=bm) (z:=z) (et:=et) (ep:=ep) (ss:=ss) (n:=n) (Qn.mk 4 n 0 []) none 0 (yw qd qd qd (by simp)) (by simp) (fun vv gn A K=>lkU K (Nat.le_refl n) qd qd)) rfl ?_);rintro _ _ ⟨y4,e4,id4,i4,n4,c4,ta4,tc4,hR4,hl4,rfl,rfl⟩;obtain ⟨rfl,rfl⟩:=hR4.unk rfl (Nat.le_refl n);subst hl4;refine qC rfl (qZ fun b22=>?_);refine q6 (wc rfl rfl rfl rfl ?_);refine qx (qv (qw (qu (qb (qE rfl) ?_))));refine qb (qA rfl) ?_;refine wq rfl (wB rfl rfl) (by simp) ?_;refine qe ?_;refine qq (qE rfl) ?_;refine qq (qA rfl) ?_;refine qq (qI rfl) ?_;refine wR (qG rfl rfl rfl rfl) rfl (wB rfl rfl) (by simp) ?_;refine qb (qW rfl qg) ?_;refine qx (qv (qB rfl ?_));refine qF (qv (qw (qu (qe ?_))));refine qC rfl (qH qh (deep_open (p:=p) (bm:=bm) (z:=z) (et:=et) (ep:=ep) (ss:=ss) (n:=n)) rfl ?_);rintro _ _ ⟨s3,rfl,rfl⟩;refine qi ?_;refine qx (qv (qw (qu (qe ?_))));refine qb (wd rfl rfl) ?_;refine qx (qv (qB rfl ?_));refine qF (qX (qv (qu (qb (wa rfl rfl qd) ?_))));refine qe ?_;refine qx ?_;refine qT _ _ ⟨rd+1,s3,rfl,⟨_,At.eq (.cons rfl (.cons rfl (.cons rfl (.cons rfl (.cons rfl (.cons rfl .nil))))))⟩,by omega,rfl⟩ qd qh
        · have han:((prs.getD w2 (0,0)).1%n)<n:=Nat.mod_lt _ qd;have hbn:((prs.getD w2 (0,0)).2%n)<n:=Nat.mod_lt _ qd;have hab:∀f∈[((prs.getD w2 (0,0)).1%n),((prs.getD w2 (0,0)).2%n)],f<n:=fun f hf=>by simp only [List.mem_cons,List.not_mem_nil,or_false] at hf;rcases hf with rfl | rfl;exact han;exact hbn
          refine qx (qv (qB rfl ?_));refine qF (qv (qw (wg [] _ mixed (fun w h=>h) 14 rfl ?_)));refine qk 0 rfl (zA (k:=0) rfl rfl rfl (by decide)) ?_;refine qk 1 rfl (q8 rfl rfl) ?_;refine qk 2 rfl (wh (m:=(prs.getD w2 (0,0)).1) rfl rfl (wZ qd)) ?_;refine qk 3 rfl (qK qg) ?_;refine qk 4 rfl (qI rfl) ?_;refine qk 5 rfl (yT (m:=(prs.getD w2 (0,0)).1) rfl rfl rfl qd rfl) ?_;refine qk 6 rfl (zA (k:=1) rfl rfl rfl (by decide)) ?_;refine qk 7 rfl (q8 rfl rfl) ?_;refine qk 8 rfl (wh (m:=(prs.getD w2 (0,0)).2) rfl rfl (wZ qd)) ?_;refine qk 9 rfl (qK qg) ?_;refine qk 10 rfl (qI rfl) ?_;refine qk 11 rfl (yT (m:=(prs.getD w2 (0,0)).2) rfl rfl rfl qd rfl) ?_;refine qk 12 rfl (xh qg) ?_;refine qk 13 rfl (xh qg) ?_;refine qY qj ?_;refine qv (qw (qu (qe ?_)));refine qe ?_;refine qe ?_;refine qb (wy (.one qg rfl (.one qg rfl (.one qg rfl .nil)))) ?_;refine wE (fun w h=>jl h) ?_;refine qC rfl (qH qh (jS (s:=s2) (p:=p) (bm:=bm) (z:=z) (et:=et) (ep:=ep) (ss:=ss) (n:=n) (Qn.mk 1 ((prs.getD w2 (0,0)).2%n) ((prs.getD w2 (0,0)).1%n) []) none 0 (yw qd (by show ((prs.getD w2 (0,0)).2%n)≤_;omega) (by show ((prs.getD w2 (0,0)).1%n)≤_;omega) (by simp)) (by simp) (fun vv gn A K=>lkA K hbn han)) rfl ?_);rintro _ _ ⟨y1,e1,id1,i1,n1,c1,ta1,tc1,hR1,hl1,rfl,rfl⟩;obtain ⟨rfl,hy1⟩:=hR1.anc rfl hbn han;refine qC rfl (qZ fun b17=>?_);refine q6 (wc rfl rfl rfl rfl ?_);refine qx (qv (qw (qu (qe ?_))));refine qe ?_;refine qe ?_;refine qb (wy (.one qg rfl (.one qg rfl (.one qg rfl .nil)))) ?_;refine wE (fun w h=>jl h) ?_;refine qC rfl (qH qh (jS (s:=s2) (p:=p) (bm:=bm) (z:=z) (et:=et) (ep:=ep) (ss:=ss) (n:=n) (Qn.mk 4 ((prs.getD w2 (0,0)).1%n) ((prs.getD w2 (0,0)).2%n) []) none 0 (yw qd (by show ((prs.getD w2 (0,0)).1%n)≤_;omega) (by show ((prs.getD w2 (0,0)).2%n)≤_;omega) (by simp)) (by simp) (fun vv gn A K=>lkBs K han hbn)) rfl ?_);rintro _ _ ⟨y2,e2,id2,i2,n2,c2,ta2,tc2,hR2,hl2,rfl,rfl⟩;obtain ⟨rfl,F2,hF2,rfl⟩:=hR2.bas rfl han hbn;subst hl2;refine qC rfl (qZ fun b18=>?_);refine q6 (wc rfl rfl rfl rfl ?_);refine qx (qv (qw (qu (qe ?_))));refine qe ?_;refine qe ?_;refine qC rfl (qS rfl (by first | decide | simp) (.one qg rfl (.one qg rfl .nil)) fun b113=>?_);refine wE (fun w h=>xa (m:=2) (cap:=2) (k:=1) (xs:=ints [((prs.getD w2 (0,0)).1%n),((prs.getD w2 (0,0)).2%n)]) (rest:=[]) h rfl (by decide)) ?_;refine qb (wy (.one qg rfl (.one qg rfl .nil))) ?_;refine qC rfl (qH qh (jS (s:=s2) (p:=p) (bm:=bm) (z:=z) (et:=et) (ep:=ep) (ss:=ss) (n:=n) (Qn.mk 2 0 0 [((prs.getD w2 (0,0)).1%n),((prs.getD w2 (0,0)).2%n)]) (some ⟨b113,0,none⟩) 2 (yw qd qd qd (fun x hx=>by have:=hab x hx;omega)) (by simp) (fun vv gn A K=>lkR K hab (by simp))) rfl ?_);rintro _ _ ⟨y3,e3,id3,i3,n3,c3,ta3,tc3,hR3,hl3,rfl,rfl⟩;obtain ⟨rfl,F3,hF3,rfl⟩:=hR3.rea rfl hab;subst hl3;refine qC rfl (qZ fun b19=>?_);refine q6 (wc rfl rfl rfl rfl ?_);refine qx (qv (qw (qw (wx_rds (a:=ra) (xs:=rls.map (rsl n)) qr (by rw [List.length_map];omega) fun bg offg lg Eg fg hag hl0=>?_))));subst hag;obtain ⟨p1,cc1,R1,hr1⟩:∃p c R,rls.getD ((prs.getD w2 (0,0)).1%n) dRw=(p,c,R):=⟨_,_,_,rfl⟩
          refine w8 (fun w h=>w7 (f:=rrd n) (l:=rls) (k:=((prs.getD w2 (0,0)).1%n)) (d:=dRw) (zt n) qr qd h) ?_;rw [hr1];refine wx_rds (a:=p1) (xs:=rowV n R1) qr (by rw [wY];omega) fun b1 off1 l1 E1 f1 ha1 hl1=>?_;subst ha1;have hq1:∀z,R1 z=true↔Rch (PPs ss n) ((prs.getD w2 (0,0)).1%n) z:=fun z=>by have:=hR ((prs.getD w2 (0,0)).1%n) qd z;rw [hr1] at this;exact this
          refine wg [] _ mixed (fun w h=>h) 35 rfl ?_;refine qk 0 rfl (qE rfl) ?_;refine qk 1 rfl (qA rfl) ?_;refine yL 2 rfl qz rfl qj (wB rfl rfl) (fun h118=>?_) (fun h118=>?_)
          · skip
            exfalso
            exact h118 rfl
          · refine qk 3 rfl (qK qg) ?_;refine wo 4 rfl (qG rfl rfl rfl rfl) rfl qj (qE rfl) ?_;refine wo 5 rfl (qG rfl rfl rfl rfl) rfl qj (qA rfl) ?_;refine yL 6 rfl (qG rfl rfl rfl rfl) rfl qj (wB rfl rfl) (fun h122=>?_) (fun h122=>?_)
            · skip
              exfalso
              exact h122 rfl
            · refine qk 7 rfl (qW rfl qg) ?_;refine qk 8 rfl (qK qg) ?_;refine wo 9 rfl (qG rfl rfl rfl rfl) rfl qj (qE rfl) ?_;refine wo 10 rfl (qG rfl rfl rfl rfl) rfl qj (qA rfl) ?_;refine yL 11 rfl (qG rfl rfl rfl rfl) rfl qj (wB rfl rfl) (fun h127=>?_) (fun h127=>?_)
              · skip
                exfalso
                exact h127 rfl
              · refine qk 12 rfl (qW rfl qg) ?_;refine qk 13 rfl (qK qg) ?_;refine wo 14 rfl (qG rfl rfl rfl rfl) rfl qj (qE rfl) ?_;refine wo 15 rfl (qG rfl rfl rfl rfl) rfl qj (qA rfl) ?_;refine wo 16 rfl (qG rfl rfl rfl rfl) rfl qj (qK qg) ?_;refine wo 17 rfl (qG rfl rfl rfl rfl) rfl qj (qK qg) ?_;refine wo 18 rfl (qG rfl rfl rfl rfl) rfl qj (wz (k:=((prs.getD w2 (0,0)).1%n)) rfl rfl rfl qd) ?_;refine wo 19 rfl (qG rfl rfl rfl rfl) rfl qj (q8 rfl (show _=some (Value.slice (some ⟨b1,off1,none⟩) n cc1) from ((hl0 ((prs.getD w2 (0,0)).1%n) (by rw [List.length_map];omega)).trans (w5 dRw qd)).trans (by rw [hr1]))) ?_;refine wo 20 rfl (qG rfl rfl rfl rfl) rfl qj (qK qg) ?_;refine wo 21 rfl (qG rfl rfl rfl rfl) rfl qj (wz (k:=((prs.getD w2 (0,0)).2%n)) rfl rfl rfl qd) ?_;refine wo 22 rfl (qG rfl rfl rfl rfl) rfl qj (q8 (r:=.bool (decide (R1 ((prs.getD w2 (0,0)).2%n)=true))) rfl ((hl1 ((prs.getD w2 (0,0)).2%n) (by rw [wY];omega)).trans (zg qd))) ?_;refine yL 23 rfl (qG rfl rfl rfl rfl) rfl qj (qt_neqB rfl rfl) (fun h139=>?_) (fun h139=>?_)
                · skip
                  exfalso
                  exact h139 (Bool.eq_iff_iff.2 (by rw [decide_eq_true_eq,hy1,hq1]))
                · refine qk 24 rfl (qW rfl qg) ?_;refine qk 25 rfl (qK qg) ?_;refine wo 26 rfl (qG rfl rfl rfl rfl) rfl qj (qE rfl) ?_;refine wo 27 rfl (qG rfl rfl rfl rfl) rfl qj (qA rfl) ?_;refine wo 28 rfl (qG rfl rfl rfl rfl) rfl qj (qK qg) ?_;refine wo 29 rfl (qG rfl rfl rfl rfl) rfl qj (qK qg) ?_;refine wo 30 rfl (qG rfl rfl rfl rfl) rfl qj (qK qg) ?_;refine qO [31] qj rfl ⟨?_,trivial⟩;refine we rfl (qG rfl rfl rfl rfl) rfl (qH qh (sp13 n rc ((prs.getD w2 (0,0)).1%n) ((prs.getD w2 (0,0)).2%n) (some ⟨bg,offg,none⟩) rls (PPs ss n) hrl qd hR (pars_up ss n).1 han hbn F2 hF2) rfl ?_);rintro _ _ ⟨a13,c13,rfl,rfl⟩;refine ⟨.inr qm,?_⟩;refine qO [32] qj rfl ⟨?_,trivial⟩;refine we rfl (qG rfl rfl rfl rfl) rfl (qH qh (sp12t i2 a13 (listS n F2).length (listS n F2).length c2 c13 (listS n F2) (listS n F2) rfl rfl (by have:=zE n F2;omega) rfl) rfl ?_);rintro _ _ ⟨rfl,rfl⟩;refine ⟨.inr qm,?_⟩;refine wo 33 rfl (qG rfl rfl rfl rfl) rfl qj (xe rfl) ?_;refine qk 34 rfl (qW rfl qg) ?_;refine qY qj ?_;refine qv (qB rfl ?_);refine qF (qv (qw (qu (qo (qx (qv (qw ?_)))))));refine qw (qu (qe ?_));refine qb (qI rfl) ?_;refine qb wH ?_;refine qx (qv (qJ (w8 (fun w h=>(wC (E:=3) (k:=1)).sat h) ?_)));refine q7 (fun m v L=>∃(c:Nat) (w3:Option Addr) (d3:Nat),n-c=m∧(∃v0,v=ups v0 [(0,.slice sa n sc),(1,.slice (some ⟨bp,offp,none⟩) qn qc),(5,ptr p),(9,.slice (some ⟨bg,offg,none⟩) n rc),(6,ptr s2),(77,.int .i64 rd),(79,.slice (some ⟨bp,offp,none⟩) qn qc),(80,.int .i64 qn),(81,.int .i64 w2),(15,.int .i64 ((prs.getD w2 (0,0)).1%n)),(16,.int .i64 ((prs.getD w2 (0,0)).2%n)),(19,ptr b19),(20,.slice w3 (listS c F3).length d3),(152,.int .i64 n),(153,.int .i64 c)])∧(c≤n)∧L=own (.slice w3 (listS c F3).length d3) 3 1 (ints (listS c F3))::pt b19 (cl [.int .i64 0,.bool y3,.int .i64 0,.slice i3 (listS n F3).length c3,.slice ta3 0 tc3] 45)::rdi i3 (listS n F3).length c3 (listS n F3)::Deep s2 p bm et ep ss n z::rds (.slice sa n0 sc) 5 (scells ss)::box (ss.map sTr)::box (ss.map sPa)::rds (.slice (some ⟨bg,offg,none⟩) n rc) 1 (rls.map (rsl n))::box (rls.map (rrd n))::rds (.slice (some ⟨bp,offp,none⟩) q0 qc) 2 (pcells prs)::T) _ _ ⟨0,none,0,rfl,⟨_,At.eq (.cons rfl (.cons rfl (.cons rfl (.cons rfl (.cons rfl (.cons rfl (.cons rfl (.cons rfl (.cons rfl (.cons rfl (.cons rfl (.cons rfl (.cons rfl (.cons rfl (.cons rfl .nil)))))))))))))))⟩,by omega,rfl⟩ qh ?_;rintro m _ _ ⟨c,w3,d3,rfl,⟨v0,rfl⟩,hc,rfl⟩;refine qw (qu ?_);refine wG rfl (wj rfl rfl) (fun h154=>?_) (fun h154=>?_)
                  · refine wK (a:=(some ⟨bg,offg,none⟩)) (xs:=rls.map (rsl n)) qr (by rw [List.length_map];omega) fun bg offg lg Eg fg hag hl0=>?_;cases hag;obtain ⟨p1,cc1,R1,hr1⟩:∃p c R,rls.getD ((prs.getD w2 (0,0)).1%n) dRw=(p,c,R):=⟨_,_,_,rfl⟩
                    refine wE (fun w h=>w7 (f:=rrd n) (l:=rls) (k:=((prs.getD w2 (0,0)).1%n)) (d:=dRw) (zt n) qr qd h) ?_;rw [hr1];refine wK (a:=p1) (xs:=rowV n R1) qr (by rw [wY];omega) fun b1 off1 l1 E1 f1 ha1 hl1=>?_;subst ha1;have hq1:∀z,R1 z=true↔Rch (PPs ss n) ((prs.getD w2 (0,0)).1%n) z:=fun z=>by have:=hR ((prs.getD w2 (0,0)).1%n) qd z;rw [hr1] at this;exact this
                    obtain ⟨p2,cc2,R2,hr2⟩:∃p c R,rls.getD ((prs.getD w2 (0,0)).2%n) dRw=(p,c,R):=⟨_,_,_,rfl⟩
                    refine wE (fun w h=>w7 (f:=rrd n) (l:=rls) (k:=((prs.getD w2 (0,0)).2%n)) (d:=dRw) (zt n) qr qd h) ?_;rw [hr2];refine wK (a:=p2) (xs:=rowV n R2) qr (by rw [wY];omega) fun b2 off2 l2 E2 f2 ha2 hl2=>?_;subst ha2;have hq2:∀z,R2 z=true↔Rch (PPs ss n) ((prs.getD w2 (0,0)).2%n) z:=fun z=>by have:=hR ((prs.getD w2 (0,0)).2%n) qd z;rw [hr2] at this;exact this
                    refine qx (qv (qw (qN rfl ?_)));refine qF (qv (qw (qJ (qw (qu (qe ?_))))));refine qi ?_;refine qx (qv (qw (qu (qe ?_))));refine qe ?_;refine qb (wz (k:=((prs.getD w2 (0,0)).1%n)) rfl rfl rfl qd) ?_;refine qb (q8 rfl (show _=some (Value.slice (some ⟨b1,off1,none⟩) n cc1) from ((hl0 ((prs.getD w2 (0,0)).1%n) (by rw [List.length_map];omega)).trans (w5 dRw qd)).trans (by rw [hr1]))) ?_;refine qe ?_;refine qb (wz (k:=c) rfl rfl rfl qd) ?_;refine wG rfl (q8 (r:=.bool (decide (R1 c=true))) rfl ((hl1 c (by rw [wY];omega)).trans (zg qd))) (fun h162=>?_) (fun h162=>?_)
                    · have hls:listS (c+1) F3=listS c F3++[c]:=by rw [yH,if_pos ((hF3 c).2 ⟨_,List.mem_cons_self,(hq1 c).1 h162⟩)]
                      refine qe ?_;refine qs (qs (qs (qs (qs (qs (qs (qb (q9 rfl qg) ?_)))))));refine qx (qv (qN rfl ?_));refine qu (qe ?_);refine qe ?_;refine qC rfl (qS rfl (by first | decide | simp) (.one qg rfl .nil) fun b174=>?_);refine qC rfl (wl qg qg qr rfl (by rfl) (by decide) xG (ones1 rfl) (fun _ _ _ h h'=>by cases h;rw [List.length_map] at h';have:=zE c F3;simp at h';omega) ?_);rintro _ _ _ a175 c175 ⟨⟩;refine qi ?_;refine qx (qX (qv (qu (qb (wa rfl rfl qd) ?_))));refine qe ?_;refine qx ?_;refine qT _ _ ⟨c+1,_,_,rfl,⟨_,At.eq (.cons rfl (.cons rfl (.cons rfl (.cons rfl (.cons rfl (.cons rfl (.cons rfl (.cons rfl (.cons rfl (.cons rfl (.cons rfl (.cons rfl (.cons (congrArg (fun z=>Value.slice _ z _) (by rw [hls];simp)) (.cons rfl (.cons rfl .nil)))))))))))))))⟩,by omega,rfl⟩ qd (by rw [hls,List.length_append,show ints (listS c F3++[c])=ints (listS c F3)++[.int .i64 (c:Nat)] from List.map_append];repeat (first | exact .refl | exact .nil | apply Pm.cons | exact .here | apply Sel.there | apply Pm.drop))
                    · refine qe ?_;refine qq (qK qg) ?_;refine qq (qK qg) ?_;refine qq (wz (k:=((prs.getD w2 (0,0)).2%n)) rfl rfl rfl qd) ?_;refine qq (q8 rfl (show _=some (Value.slice (some ⟨b2,off2,none⟩) n cc2) from ((hl0 ((prs.getD w2 (0,0)).2%n) (by rw [List.length_map];omega)).trans (w5 dRw qd)).trans (by rw [hr2]))) ?_;refine qq (qK qg) ?_;refine qq (wz (k:=c) rfl rfl rfl qd) ?_;refine xO (qG rfl rfl rfl rfl) rfl (q8 (r:=.bool (decide (R2 c=true))) rfl ((hl2 c (by rw [wY];omega)).trans (zg qd))) (fun h170=>?_) (fun h170=>?_)
                      · have hls:listS (c+1) F3=listS c F3++[c]:=by rw [yH,if_pos ((hF3 c).2 ⟨_,List.mem_cons_of_mem _ List.mem_cons_self,(hq2 c).1 h170⟩)]
                        refine qb (qW rfl qg) ?_;refine qx (qv (qN rfl ?_));refine qu (qe ?_);refine qe ?_;refine qC rfl (qS rfl (by first | decide | simp) (.one qg rfl .nil) fun b174=>?_);refine qC rfl (wl qg qg qr rfl (by rfl) (by decide) xG (ones1 rfl) (fun _ _ _ h h'=>by cases h;rw [List.length_map] at h';have:=zE c F3;simp at h';omega) ?_);rintro _ _ _ a175 c175 ⟨⟩;refine qi ?_;refine qx (qX (qv (qu (qb (wa rfl rfl qd) ?_))));refine qe ?_;refine qx ?_;refine qT _ _ ⟨c+1,_,_,rfl,⟨_,At.eq (.cons rfl (.cons rfl (.cons rfl (.cons rfl (.cons rfl (.cons rfl (.cons rfl (.cons rfl (.cons rfl (.cons rfl (.cons rfl (.cons rfl (.cons (congrArg (fun z=>Value.slice _ z _) (by rw [hls];simp)) (.cons rfl (.cons rfl .nil)))))))))))))))⟩,by omega,rfl⟩ qd (by rw [hls,List.length_append,show ints (listS c F3++[c])=ints (listS c F3)++[.int .i64 (c:Nat)] from List.map_append];repeat (first | exact .refl | exact .nil | apply Pm.cons | exact .here | apply Sel.there | apply Pm.drop))
                      · have hls:listS (c+1) F3=listS c F3:=by rw [yH,if_neg (fun h=>by obtain ⟨f,hf,hr⟩:=(hF3 c).1 h;simp only [List.mem_cons,List.not_mem_nil,or_false] at hf;rcases hf with rfl | rfl;exact h162 ((hq1 c).2 hr);exact h170 ((hq2 c).2 hr)),List.append_nil]
                        refine qb (qW rfl qg) ?_;refine qx (qv (qB rfl ?_));refine qF (qX (qv (qu (qb (wa rfl rfl qd) ?_))));refine qe ?_;refine qx ?_;refine qT _ _ ⟨c+1,_,_,rfl,⟨_,At.eq (.cons rfl (.cons rfl (.cons rfl (.cons rfl (.cons rfl (.cons rfl (.cons rfl (.cons rfl (.cons rfl (.cons rfl (.cons rfl (.cons rfl (.cons (congrArg (fun z=>Value.slice _ z _) (by rw [hls])) (.cons rfl (.cons rfl .nil)))))))))))))))⟩,by omega,rfl⟩ qd (by rw [hls];repeat (first | exact .refl | exact .nil | apply Pm.cons | exact .here | apply Sel.there | apply Pm.drop))
                  · obtain rfl:n=c:=by omega
                    refine qx (qv (qw (qB rfl ?_)));refine wk ?_;refine qQ (qQ (ww ?_));refine qv (qw (zT qr ?_));refine qu (qb (qE rfl) ?_);refine qb (qA rfl) ?_;refine qe ?_;refine qC rfl (qH qh (sp12t i3 w3 (listS n F3).length (listS n F3).length c3 d3 (listS n F3) (listS n F3) rfl rfl (by have:=zE n F3;omega) rfl) rfl ?_);rintro _ _ ⟨rfl,rfl⟩;refine qb (xe rfl) ?_;refine qx (qv (qB rfl ?_));refine qF (qX (qv (qu (qb (wa rfl rfl qd) ?_))));refine qe ?_;refine qx ?_;refine qT _ _ ⟨w2+1,rfl,⟨_,At.eq (.cons rfl (.cons rfl (.cons rfl (.cons rfl (.cons rfl (.cons rfl (.cons rfl (.cons rfl (.cons rfl .nil)))))))))⟩,by omega,rfl⟩ qd qh
      · refine qx (qv (qw (qB rfl ?_)));refine wk ?_;refine qQ (qQ (ww ?_));refine qv (qw (qw (qu (qe ?_))));refine qe ?_;refine qb (qI rfl) ?_;refine qb (wy (.one qg rfl (.one qg rfl .nil))) ?_;refine wE (fun w h=>jl h) ?_;refine qC rfl (qH qh (jS (s:=s2) (p:=p) (bm:=bm) (z:=z) (et:=et) (ep:=ep) (ss:=ss) (n:=n) (Qn.mk 4 n 0 []) none 0 (yw qd qd qd (by simp)) (by simp) (fun vv gn A K=>lkU K (Nat.le_refl n) qd qd)) rfl ?_);rintro _ _ ⟨y4,e4,id4,i4,n4,c4,ta4,tc4,hR4,hl4,rfl,rfl⟩;obtain ⟨rfl,rfl⟩:=hR4.unk rfl (Nat.le_refl n);subst hl4;refine qC rfl (qZ fun b22=>?_);refine q6 (wc rfl rfl rfl rfl ?_);refine qx (qv (qw (qu (qb (qE rfl) ?_))));refine qb (qA rfl) ?_;refine wq rfl (wB rfl rfl) (by simp) ?_;refine qe ?_;refine qq (qE rfl) ?_;refine qq (qA rfl) ?_;refine qq (qI rfl) ?_;refine wR (qG rfl rfl rfl rfl) rfl (wB rfl rfl) (by simp) ?_;refine qb (qW rfl qg) ?_;refine qx (qv (qB rfl ?_));refine qF (qv (qw (qu (qe ?_))));refine qC rfl (qH qh (deep_open (p:=p) (bm:=bm) (z:=z) (et:=et) (ep:=ep) (ss:=ss) (n:=n)) rfl ?_);rintro _ _ ⟨s3,rfl,rfl⟩;refine qi ?_;refine qx (qv (qw (qu (qe ?_))));refine qb (wd rfl rfl) ?_;refine qx (qv (qB rfl ?_));refine qF (qX (qv (qu (qb (wa rfl rfl qd) ?_))));refine qe ?_;refine qx ?_;refine qT _ _ ⟨rd+1,s3,rfl,⟨_,At.eq (.cons rfl (.cons rfl (.cons rfl (.cons rfl (.cons rfl (.cons rfl .nil))))))⟩,by omega,rfl⟩ qd qh
    · refine qx (qv (qw (qB rfl ?_)));refine wk ?_;refine qQ (qQ (ww ?_));refine qv (qw (qu (qo (qx (qv (qL ?_))))));refine qM rfl rfl (qD qg) _ ⟨rfl,rfl⟩ qm
end
section
open Go
def allR (w0:World):HProp:=⟨fun ro _=>(∀(b:Nat) (o:Obj),w0.heap[b]?=some o→ro b=some o)∧ro.os=w0.os∧ro.out=w0.output,fun hr _ h=>⟨fun b o hb=>hr.1 b o (h.1 b o hb),hr.2.1.symm.trans h.2.1,hr.2.2.symm.trans h.2.2⟩⟩
theorem sat_all (w:World):Sat [allR w] w:=by
  refine ⟨⟨fun b=>w.heap[b]?,w.os,w.output⟩,fun _=>none,⟨?_,rfl,rfl⟩,?_,fun _=>.inr rfl,fun _=>none,fun _=>none,fun _=>.inl ⟨rfl,rfl⟩,⟨?_,rfl,rfl⟩,trivial⟩
  · intro b o h;exact h
  · intro b o h;cases h
  · intro b o h;exact h
theorem all_rd {w0:World} {b:Nat} {o:Obj} {L:List HProp} (hb:w0.heap[b]?=some o):Ent (allR w0::L) (rd b o::allR w0::L):=fun ro rw h=>by
  obtain ⟨m1,m2,hs,ha,hl⟩:=h;exact ⟨fun _=>none,rw,.none_left _,ha.1 b o hb,m1,m2,hs,ha,hl⟩
theorem all_kept {w0 w:World} {L:List HProp} (h:Sat (allR w0::L) w):w.os=w0.os∧w.output=w0.output∧∀(b:Nat) (o:Obj),w0.heap[b]?=some o→w.heap[b]?=some o:=by
  obtain ⟨ro,rw,h1,_,_,m1,m2,_,ha,_⟩:=h;exact ⟨h1.2.1.symm.trans ha.2.1,h1.2.2.symm.trans ha.2.2,fun b o hb=>h1.1 b o (ha.1 b o hb)⟩
end
section
open Go
theorem fmC_len {k:Nat} {C:Nat→List Value}:∀ {n:Nat},(∀i,i<n→(C i).length=k)→((List.range n).flatMap C).length=n*k
  | 0,_=>by simp
  | n+1,h=>by
    rw [List.range_succ,List.flatMap_append,List.length_append,fmC_len fun i hi=>h i qd,Nat.succ_mul];simp [h n qd]
theorem fmC_at {k:Nat} {C:Nat→List Value}:∀ {n:Nat},(∀i,i<n→(C i).length=k)→∀i j,i<n→j<k→((List.range n).flatMap C)[i*k+j]?=(C i)[j]?
  | n+1,h,i,j,hi,hj=>by
    have hl:=fmC_len (k:=k) (C:=C) (n:=n) fun i hi=>h i qd;rw [List.range_succ,List.flatMap_append]
    by_cases e:i<n
    · have h1:(i+1)*k≤n*k:=Nat.mul_le_mul_right _ qd;rw [Nat.succ_mul] at h1;rw [List.getElem?_append_left (by rw [hl];omega)];exact fmC_at (fun i hi=>h i qd) i j e hj
    · obtain rfl:i=n:=by omega
      rw [List.getElem?_append_right (by rw [hl];omega),hl,Nat.add_sub_cancel_left]
      simp
theorem cell_block {w:World} {a:Addr} {v:Value} (h:w.cell? a=some v):a.spot=none∧∃l E fz,w.heap[a.block]?=some (.cells (List.toArray l) E fz)∧l[a.off]?=some v:=by
  unfold World.cell? at h
  split at h
  · rename_i c E fz hb
    split at h
    · cases h
    · rename_i hs;refine ⟨by cases hsp:a.spot<;>simp_all,c.toList,E,fz,by simpa using hb,by simpa using h⟩
  · cases h
theorem kU {w0:World} {a:Addr} {len cap k:Nat} (hk:0<k) (hc:len≤cap) (C:Nat→List Value) (hC:∀i,i<len→w0.cells? 0 (a.add (i*k)) k=some (C i)) {L:List HProp} {w:World} (h:Sat (allR w0::L) w) :
    Sat (rds (.slice (some a) len cap) k ((List.range len).flatMap C)::allR w0::L) w:=by
  by_cases h0:len=0
  · subst h0;exact xR.sat h
  · have hlen:∀i,i<len→(C i).length=k:=fun i hi=>(World.cells?_some (hC i hi)).2.1;have hcell:∀i j,i<len→j<k→w0.cell? (a.add (i*k+j))=(C i)[j]?:=fun i j hi hj=>by
      have:=(World.cells?_some (hC i hi)).2.2 j hj
      rwa [show (a.add (i*k)).add j=a.add (i*k+j) from by unfold Addr.add;by_cases h1:i*k=0<;>by_cases h2:j=0<;>simp [h1,h2,Nat.add_assoc]] at this
    have h1:=hcell 0 0 qd hk;rw [Nat.zero_mul,Nat.add_zero,List.getElem?_eq_getElem (by rw [hlen 0 qd];exact hk)] at h1;have ea:a.add 0=a:=by unfold Addr.add;simp
    rw [ea] at h1;obtain ⟨hsp,l,E,fz,hb,_⟩:=cell_block h1;obtain ⟨b,off,sp⟩:=a;simp only at hsp;subst hsp;obtain ⟨ro,rw',e1,e2,e3,m1,m2,hs,ha,hl⟩:=h;have hxl:=fmC_len hlen;refine ⟨ro,rw',e1,e2,e3,fun _=>none,rw',.none_left _,⟨some ⟨b,off,none⟩,len,cap,rfl,hxl,Nat.mul_le_mul_right _ hc,.inr ⟨b,off,l,E,fz,rfl,ha.1 b _ hb,fun i hi=>?_⟩⟩,m1,m2,hs,ha,hl⟩;rw [hxl] at hi;have hd:i=i/k*k+i%k:=(Nat.div_add_mod' i k).symm;have hm:=Nat.mod_lt i hk;have hq:i/k<len:=Nat.div_lt_of_lt_mul (by rw [Nat.mul_comm];exact hi);have h2:=hcell (i/k) (i%k) hq hm;rw [←hd,add_off] at h2;have h3:w0.cell? ⟨b,off+i,none⟩=l[off+i]?:=by simp [World.cell?,hb]
    rw [←h3,h2]
    conv=>rhs;rw [hd]
    exact (fmC_at hlen _ _ hq hm).symm
end
section
open Go
set_option maxRecDepth 4000
variable {H:Type} {enc:TypeId×Value→H} {w0:World} {base fuel:Nat} {spare:Nat→Bool} {held:Bool}
theorem z6 {α:Type} [Inhabited α] {n:Nat} {p:Nat→α→Prop} (h:∀i,i<n→∃x,p i x):∃f:Nat→α,∀i,i<n→p i (f i) :=
  ⟨fun i=>if hi:i<n then (h i hi).choose else default,fun i hi=>by simp only [hi,dif_pos];exact (h i hi).choose_spec⟩
abbrev Rdable (w0:World) (s:Value) (k:Nat) (xs:List Value):Prop:=∀ {L:List HProp} {w:World},Sat (allR w0::L) w→Sat (rds s k xs::allR w0::L) w
theorem read_bytes {v:Value} {x:DataW H×List MemPlace} (h:DataW.trod enc Tryz.prog w0 0 (fun _=>true) held fuel 35 [v]=some x):∃pa pc l,v=.slice pa (List.length l) pc∧l.length≤9223372036854775807∧Rdable w0 (.slice pa l.length pc) 1 (u8s l):=by
  have hm0:maxLen=9223372036854775807:=rfl;rcases Go.Deep.open_slice1 Tryz.underlying35 qj h with ⟨h1,_⟩ | ⟨a,len,cap,m,n,V,D,Pl,h1,hb,hl,hc,hm,_,hx⟩
  · cases h1;exact ⟨none,0,[],rfl,by simp,fun h=>xR.sat h⟩
  · cases h1;simp only [if_true] at hm;have hv:∀i,i<len→∃b:UInt8,V i=.int .u8 b.toNat:=fun i hi=>by
      obtain ⟨k,e1,_,e3⟩:=DataW.trod_int Tryz.underlying5 (hx i qd).2;simp only [Lit.wf,Bool.and_eq_true,decide_eq_true_eq] at e3;have h0:(0:Int)≤k:=e3.1;have h255:k≤255:=e3.2;refine ⟨UInt8.ofNat k.toNat,?_⟩;rw [List.head_eq_of_cons_eq e1];simp only [UInt8.toNat_ofNat']
      congr 1
      omega
    obtain ⟨B,hB⟩:=z6 hv;refine ⟨some a,cap,(List.range len).map B,by simp,by simp;omega,fun h=>?_⟩;have h2:=kU (w0:=w0) (a:=a) (len:=len) (cap:=cap) (k:=1) qd hl (fun i=>[V i]) (fun i hi=>by
      have:=(hx i qd).1;rw [Nat.mul_one];unfold World.cells?;rw [if_pos qd];have e0:(a.add i).add 0=a.add i:=by unfold Addr.add;simp
      simp [e0,this]) h
    have e:((List.range len).flatMap fun i=>[V i])=u8s ((List.range len).map B):=by
      rw [u8s,List.map_map,List.flatMap_def];have:(List.range len).map (fun i=>[V i])=(List.range len).map (fun i=>[Value.int .u8 (B i).toNat]):=List.map_congr_left fun i hi=>by rw [hB i (List.mem_range.1 hi)]
      rw [this,←List.flatMap_def]
      induction List.range len with
      | nil=>rfl
      | cons x l ih=>rw [List.flatMap_cons,List.map_cons,ih];rfl
    rw [e] at h2;simpa using h2
theorem read_entry {cs:List Value} {x:DataW H×List MemPlace} (h:DataW.trod enc Tryz.prog w0 0 (fun _=>true) held fuel 94 cs=some x):∃e:Ent0,cs=[.string e.1,.int .u32 e.2]∧e.2<2^32:=by
  obtain ⟨xs,n,_,_,hlen,hxl,hf⟩:=DataW.trod_struct Tryz.underlying94 h;rw [show Tryz.prog.cellsOf 94=2 by kernel_rfl] at hlen
  match cs,hlen,xs,hxl with
  | [c0,c1],_,[x0,x1],_ =>
    have f0:=hf 0 _ rfl;have f1:=hf 1 _ rfl;have c9:Tryz.prog.cellsOf 9=1:=by kernel_rfl
    have c67:Tryz.prog.cellsOf 67=1:=by kernel_rfl
    simp only [c9,c67,List.drop_zero,List.take_succ_cons,List.take_zero,List.drop_succ_cons,List.getElem?_cons_zero,List.getElem?_cons_succ] at f0 f1;obtain ⟨s,e0,_,_⟩:=DataW.trod_string Tryz.underlying9 f0;obtain ⟨k,e1,_,e3⟩:=DataW.trod_int Tryz.underlying67 f1;simp only [Lit.wf,Bool.and_eq_true,decide_eq_true_eq] at e3;have h0:(0:Int)≤k:=e3.1;have h2:k≤4294967295:=e3.2;refine ⟨(s,k.toNat),?_,by show k.toNat<_;omega⟩;cases e0;cases e1
    congr 3
    show k=((k.toNat:Nat):Int)
    omega
theorem vl {α:Type} (f:α→List Value) (B:Nat→α) (C:Nat→List Value):∀n,(∀i,i<n→C i=f (B i))→(List.range n).flatMap C=((List.range n).map B).flatMap f
  | 0,_=>rfl
  | n+1,h=>by
    rw [List.range_succ,List.flatMap_append,List.map_append,List.flatMap_append,vl f B C n fun i hi=>h i qd];simp [h n qd]
theorem read_tree {v:Value} {x:DataW H×List MemPlace} (h:DataW.trod enc Tryz.prog w0 0 (fun _=>true) held fuel 34 [v]=some x):∃ta tc es,v=.slice ta (List.length es) tc∧es.length≤9223372036854775807∧(∀k,k<es.length→cd es k<2^32)∧Rdable w0 (.slice ta es.length tc) 2 (tcells es):=by
  have hm0:maxLen=9223372036854775807:=rfl;have c94:Tryz.prog.cellsOf 94=2:=by kernel_rfl
  rcases Go.Deep.open_slice Tryz.underlying34 h with ⟨h1,_⟩ | ⟨a,len,cap,m,n,D,Pl,h1,hb,hl,hc,hm,_,hx⟩
  · cases h1;exact ⟨none,0,[],rfl,by simp,fun k hk=>(by cases hk),fun h=>xR.sat h⟩
  · cases h1;simp only [if_true] at hm;rw [c94] at hx;have hv:∀i,i<len→∃e:Ent0,w0.cells? 0 (a.add (i*2)) 2=some [.string e.1,.int .u32 e.2]∧e.2<2^32:=fun i hi=>by
      obtain ⟨cs',h1,h2⟩:=hx i qd;obtain ⟨e,he,he2⟩:=read_entry h2;exact ⟨e,by rw [h1,he],he2⟩
    obtain ⟨B,hB⟩:=z6 hv;refine ⟨some a,cap,(List.range len).map B,by simp,by simp;omega,fun k hk=>?_,fun h=>?_⟩
    · have hk2:k<len:=by simpa using hk
      rw [cd_get hk,List.getElem_map,List.getElem_range];exact (hB k hk2).2
    · have h2:=kU (w0:=w0) (a:=a) (len:=len) (cap:=cap) (k:=2) qd hl (fun i=>[.string (B i).1,.int .u32 (B i).2]) (fun i hi=>(hB i hi).1) h;rw [vl (fun e:Ent0=>[.string e.1,.int .u32 e.2]) B _ len (fun _ _=>rfl)] at h2;simpa [tcells] using h2
end
section
open Go
set_option maxRecDepth 4000
variable {H:Type} {enc:TypeId×Value→H} {w0:World} {base fuel:Nat} {spare:Nat→Bool} {held:Bool}
instance : Inhabited Sq:=⟨dSq⟩
theorem read_step {cs:List Value} {x:DataW H×List MemPlace} (h:DataW.trod enc Tryz.prog w0 0 (fun _=>true) held fuel 38 cs=some x):∃s:Sq,cs=s.cells∧SqOk s∧Rdable w0 (.slice s.ta s.es.length s.tc) 2 (tcells s.es)∧Rdable w0 (.slice s.pa s.l.length s.pc) 1 (u8s s.l):=by
  obtain ⟨xs,n,_,_,hlen,hxl,hf⟩:=DataW.trod_struct Tryz.underlying38 h;rw [show Tryz.prog.cellsOf 38=5 by kernel_rfl] at hlen
  match cs,hlen,xs,hxl with
  | [c0,c1,c2,c3,c4],_,[x0,x1,x2,x3,x4],_ =>
    have f0:=hf 0 _ rfl;have f1:=hf 1 _ rfl;have f2:=hf 2 _ rfl;have f3:=hf 3 _ rfl;have f4:=hf 4 _ rfl;have d34:Tryz.prog.cellsOf 34=1:=by kernel_rfl
    have d35:Tryz.prog.cellsOf 35=1:=by kernel_rfl
    have d5:Tryz.prog.cellsOf 5=1:=by kernel_rfl
    have d36:Tryz.prog.cellsOf 36=1:=by kernel_rfl
    simp only [d34,d35,d5,d36,List.drop_zero,List.take_succ_cons,List.take_zero,List.drop_succ_cons,List.getElem?_cons_zero,List.getElem?_cons_succ] at f0 f1 f2 f3 f4;obtain ⟨ta,tc,es,e0,he1,he2,he3⟩:=read_tree f0;obtain ⟨pa,pc,l,e1,hl1,hl2⟩:=read_bytes f1;obtain ⟨k2,e2,_,g2⟩:=DataW.trod_int Tryz.underlying5 f2;obtain ⟨k3,e3,_,g3⟩:=DataW.trod_int Tryz.underlying5 f3;obtain ⟨k4,e4,_,g4⟩:=DataW.trod_int Tryz.underlying36 f4;simp only [Lit.wf,Bool.and_eq_true,decide_eq_true_eq] at g2 g3 g4;have a2:(0:Int)≤k2:=g2.1;have b2:k2≤255:=g2.2;have a3:(0:Int)≤k3:=g3.1;have b3:k3≤255:=g3.2;have a4:(0:Int)≤k4:=g4.1;cases e2;cases e3;cases e4;subst e0 e1;refine ⟨⟨ta,tc,es,pa,pc,l,UInt8.ofNat k2.toNat,UInt8.ofNat k3.toNat,k4.toNat⟩,?_,⟨he1,hl1,he2⟩,he3,hl2⟩;have u2:(((UInt8.ofNat k2.toNat).toNat:Nat):Int)=k2:=by simp only [UInt8.toNat_ofNat'];omega
    have u3:(((UInt8.ofNat k3.toNat).toNat:Nat):Int)=k3:=by simp only [UInt8.toNat_ofNat'];omega
    have u4:((k4.toNat:Nat):Int)=k4:=by omega
    simp only [Sq.cells,u2,u3,u4]
theorem read_steps {v:Value} {x:DataW H×List MemPlace} (h:DataW.trod enc Tryz.prog w0 0 (fun _=>true) held fuel 22 [v]=some x):∃sa sc ss,v=.slice sa (List.length ss) sc∧ss.length≤9223372036854775807∧(∀k,k<ss.length→SqOk (ss.getD k dSq)∧Rdable w0 (.slice (ss.getD k dSq).ta (ss.getD k dSq).es.length (ss.getD k dSq).tc) 2 (tcells (ss.getD k dSq).es)∧Rdable w0 (.slice (ss.getD k dSq).pa (ss.getD k dSq).l.length (ss.getD k dSq).pc) 1 (u8s (ss.getD k dSq).l))∧Rdable w0 (.slice sa ss.length sc) 5 (scells ss):=by
  have hm0:maxLen=9223372036854775807:=rfl;have c38:Tryz.prog.cellsOf 38=5:=by kernel_rfl
  rcases Go.Deep.open_slice Tryz.underlying22 h with ⟨h1,_⟩ | ⟨a,len,cap,m,n,D,Pl,h1,hb,hl,hc,hm,_,hx⟩
  · cases h1;exact ⟨none,0,[],rfl,by simp,fun k hk=>(by cases hk),fun h=>xR.sat h⟩
  · cases h1;simp only [if_true] at hm;rw [c38] at hx;have hv:∀i,i<len→∃s:Sq,w0.cells? 0 (a.add (i*5)) 5=some s.cells∧SqOk s∧Rdable w0 (.slice s.ta s.es.length s.tc) 2 (tcells s.es)∧Rdable w0 (.slice s.pa s.l.length s.pc) 1 (u8s s.l):=fun i hi=>by
      obtain ⟨cs',h1,h2⟩:=hx i qd;obtain ⟨s,hs,h3⟩:=read_step h2;exact ⟨s,by rw [h1,hs],h3⟩
    obtain ⟨B,hB⟩:=z6 hv;refine ⟨some a,cap,(List.range len).map B,by simp,by simp;omega,fun k hk=>?_,fun h=>?_⟩
    · have hk2:k<len:=by simpa using hk
      have e:((List.range len).map B).getD k dSq=B k:=by simp [hk2]
      rw [e];exact (hB k hk2).2
    · have h2:=kU (w0:=w0) (a:=a) (len:=len) (cap:=cap) (k:=5) qd hl (fun i=>(B i).cells) (fun i hi=>(hB i hi).1) h;rw [vl Sq.cells B _ len (fun _ _=>rfl)] at h2;simpa [scells] using h2
theorem read_pair {cs:List Value} {x:DataW H×List MemPlace} (h:DataW.trod enc Tryz.prog w0 0 (fun _=>true) held fuel 42 cs=some x):∃e:Nat×Nat,cs=[.int .u16 e.1,.int .u16 e.2]∧e.1<65536∧e.2<65536:=by
  obtain ⟨xs,n,_,_,hlen,hxl,hf⟩:=DataW.trod_array Tryz.underlying42 h;rw [show Tryz.prog.cellsOf 42=2 by kernel_rfl] at hlen
  match cs,hlen,xs,hxl with
  | [c0,c1],_,[x0,x1],_ =>
    have f0:=hf 0 (by decide);have f1:=hf 1 (by decide);have d36:Tryz.prog.cellsOf 36=1:=by kernel_rfl
    simp only [d36,Nat.zero_mul,Nat.one_mul,List.drop_zero,List.take_succ_cons,List.take_zero,List.drop_succ_cons,List.getElem?_cons_zero,List.getElem?_cons_succ] at f0 f1;obtain ⟨k0,e0,_,g0⟩:=DataW.trod_int Tryz.underlying36 f0;obtain ⟨k1,e1,_,g1⟩:=DataW.trod_int Tryz.underlying36 f1;simp only [Lit.wf,Bool.and_eq_true,decide_eq_true_eq] at g0 g1;have a0:(0:Int)≤k0:=g0.1;have b0:k0≤65535:=g0.2;have a1:(0:Int)≤k1:=g1.1;have b1:k1≤65535:=g1.2;cases e0;cases e1;refine ⟨(k0.toNat,k1.toNat),?_,by show k0.toNat<_;omega,by show k1.toNat<_;omega⟩;have u0:((k0.toNat:Nat):Int)=k0:=by omega
    have u1:((k1.toNat:Nat):Int)=k1:=by omega
    simp only [u0,u1]
theorem read_pairs {v:Value} {x:DataW H×List MemPlace} (h:DataW.trod enc Tryz.prog w0 0 (fun _=>true) held fuel 23 [v]=some x):∃qa qc ps,v=.slice qa (List.length ps) qc∧ps.length≤9223372036854775807∧(∀e∈ps,e.1<65536∧e.2<65536)∧Rdable w0 (.slice qa ps.length qc) 2 (pcells ps):=by
  have hm0:maxLen=9223372036854775807:=rfl;have c42:Tryz.prog.cellsOf 42=2:=by kernel_rfl
  rcases Go.Deep.open_slice Tryz.underlying23 h with ⟨h1,_⟩ | ⟨a,len,cap,m,n,D,Pl,h1,hb,hl,hc,hm,_,hx⟩
  · cases h1;exact ⟨none,0,[],rfl,by simp,fun k hk=>(by cases hk),fun h=>xR.sat h⟩
  · cases h1;simp only [if_true] at hm;rw [c42] at hx;have hv:∀i,i<len→∃e:Nat×Nat,w0.cells? 0 (a.add (i*2)) 2=some [.int .u16 e.1,.int .u16 e.2]∧e.1<65536∧e.2<65536:=fun i hi=>by
      obtain ⟨cs',h1,h2⟩:=hx i qd;obtain ⟨e,he,h3⟩:=read_pair h2;exact ⟨e,by rw [h1,he],h3⟩
    obtain ⟨B,hB⟩:=z6 hv;refine ⟨some a,cap,(List.range len).map B,by simp,by simp;omega,fun e he=>?_,fun h=>?_⟩
    · obtain ⟨i,hi,rfl⟩:=List.mem_map.1 he;exact (hB i (List.mem_range.1 hi)).2
    · have h2:=kU (w0:=w0) (a:=a) (len:=len) (cap:=cap) (k:=2) qd hl (fun i=>[.int .u16 (B i).1,.int .u16 (B i).2]) (fun i hi=>(hB i hi).1) h;rw [vl (fun e:Nat×Nat=>[.int .u16 e.1,.int .u16 e.2]) B _ len (fun _ _=>rfl)] at h2;simpa [pcells] using h2
end
section
open Go
theorem sat_boxes {w0:World} {α:Type} {f:α→HProp}:∀ {l:List α},(∀x∈l,∀ {L:List HProp} {w:World},Sat (allR w0::L) w→Sat (f x::allR w0::L) w)→∀ {L:List HProp} {w:World},Sat (allR w0::L) w→Sat (box (l.map f)::allR w0::L) w
  | [],_,_,_,h=>wi (L:=[]).sat h
  | x::l,hx,L,w,h=>by
    have h1:=sat_boxes (l:=l) (fun y hy=>hx y (List.mem_cons_of_mem _ hy)) h;have h2:Sat (allR w0::box (l.map f)::L) w:=Ent.swap.sat h1;have h3:=hx x List.mem_cons_self h2;have h4:Sat (f x::box (l.map f)::allR w0::L) w:=(Ent.swap.cons).sat h3;exact wi (L:=(x::l).map f).sat ((wF.cons).sat h4)
end
end Go.Proofs.YtdibpoheeffioaaGreatDoor
