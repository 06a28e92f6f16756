/- Laws of the printed functions. -/
import Derived.Test.YtklhcnnpgkkjcaaGreatDoorTRDf
import Derived.Test.YtklhcnnpgkkjcaaGreatDoorMachT
import Derived.Test.YtklhcnnpgkkjcaaGreatDoorMachC
namespace Go.Proofs.YtklhcnnpgkkjcaaGreatDoor
open Go Go.Ab
theorem chkLe{α:Type}{p:Prop} [Decidable p]{x:α}{q:Option α}(h:p->q=some x):Le (chk p (some x)) q:=by
 intro r hr;unfold chk at hr;split at hr;·rename_i hp;rw[h hp];exact hr
 .cases hr
theorem qm9:∀l:LI,q9m (l.map fun n=>D.v (.int .i64 n))=some l|[]=>rfl|x::r=>by simp only[List.map_cons,q9m,qm9 r,mS]
def upB:LI->Bool|[]=>true|x::r=>decide (0<=x)&&decide (x<1024)&&r.all (fun y=>!ltSet y.toNat x.toNat)&&upB r
theorem qxl:∀{l:LI},upB l=true->l.all (fun a=>decide (0<=a)&&decide (a<1024))=true/\l.Pairwise fun x y=>(!ltSet y.toNat x.toNat)=true|[],_=>⟨rfl,.nil⟩|x::r,h=>by simp only[upB,aT]at h;obtain⟨h1,h2⟩:=qxl h.2;exact⟨by simp only[List.all_cons,h1,h.1.1,Bool.and_self],.cons (List.all_eq_true.1 h.1.2) h2⟩
theorem yc7(h0:List (Int)):Le (chk (List.length h0<=1000/\upB h0=true)<|some h0) (z02 h0):=chkLe fun⟨h1,h2⟩=>by refine q36 (T:=tn) (m:=q6f _) sigOk (by kernel_rfl) rfl ?_;show libA (q6f _) [.ref 0,.fn _ []] [[.own (h0.map fun n=>D.v (.int .i64 n)) false]]=some (.tup [],[[.own (h0.map fun n=>D.v (.int .i64 n)) false]]);obtain⟨h3,h4⟩:=qxl h2;unfold libA q6f;simp only[qm9];rw[if_pos ⟨trivial,by unfold q0a;omega,h3⟩,List.mergeSort_of_pairwise h4];rfl
theorem y7f{l:LU}(h:l.length=1):∃c,l=[c]:=by match l,h with|[c],_=>exact⟨c,rfl⟩
theorem ycf(s_0:LU)(substr_1:LU):Le (chk (List.length s_0<=1000/\List.length substr_1=1)<|some (((List.count (substr_1.headD 0) s_0:Nat)):Int)) (z54 s_0 substr_1):=chkLe fun⟨h1,h2⟩=>by obtain⟨c,rfl⟩:=y7f h2;refine q36 (T:=tn) (m:=q9b) sigOk (by kernel_rfl) rfl ?_;show libA q9b [.d (.v (.string ⟨⟨s_0⟩⟩)),.d (.v (.string ⟨⟨[c]⟩⟩))] []=_;unfold libA q9b;simp only[h1,if_true];rfl
theorem yb0(s_0:LU)(substr_1:LU):Le (chk (List.length s_0<=1000/\List.length substr_1=1)<|some (posB (substr_1.headD 0) s_0)) (z3r s_0 substr_1):=chkLe fun⟨h1,h2⟩=>by obtain⟨c,rfl⟩:=y7f h2;refine q36 (T:=tn) (m:=q9a) sigOk (by kernel_rfl) rfl ?_;show libA q9a [.d (.v (.string ⟨⟨s_0⟩⟩)),.d (.v (.string ⟨⟨[c]⟩⟩))] []=_;unfold libA q9a;simp only[h1,if_true];rfl
theorem yc4(s_0:LU)(c_1:Int):Le (chk (List.length s_0<=1000)<|some (posB c_1.toNat.toUInt8 s_0)) (z2q s_0 c_1):=chkLe fun h1=>by refine q36 (T:=tn) (m:=q91) sigOk (by kernel_rfl) rfl ?_;show libA q91 [.d (.v (.string ⟨⟨s_0⟩⟩)),.d (.v (.int .u8 c_1))] []=_;unfold libA q91;simp only[h1,if_true];rfl
theorem y9e:∀n,n<10->Lib.decDigits n=[(48+n).toUInt8]:=by decide+kernel
theorem yaq(i_0:Int)(base_1:Int):Le (chk (0<=i_0/\i_0<10/\base_1=10)<|some [(48+i_0.toNat).toUInt8]) (z3q i_0 base_1):=chkLe fun⟨h1,h2,h3⟩=>by subst h3;refine q36 (T:=tn) (m:=qij) sigOk (by kernel_rfl) rfl ?_;show libA qij [.d (.v (.int .i64 i_0)),.d (.v (.int .i64 10))] []=some (.d (.v (.string ⟨⟨[(48+i_0.toNat).toUInt8]⟩⟩)),[]);unfold libA qij;simp only;rw[if_pos ⟨h1,by omega⟩,y9e i_0.toNat (by omega)];rfl
theorem yc9(s_0:LU):Le (chk ((Lib.atoi s_0).isSome=true/\List.length s_0<=4)<|some ((Lib.atoi s_0).getD 0,())) (z4o s_0):=chkLe fun⟨h,h1⟩=>by refine q36 (T:=tn) (m:=qhv) sigOk (by kernel_rfl) rfl ?_;show libA qhv [.d (.v (.string ⟨⟨s_0⟩⟩))] []=some (.tup [.d (.v (.int .i64 ((Lib.atoi s_0).getD 0))),.undef],[]);obtain⟨n,hn⟩:=Option.isSome_iff_exists.1 h;unfold libA qhv;simp only[hn,h1,if_true];rfl
def cellP(c:Claim):Int×Int:=(c.Topic,c.Value)
theorem qo2:∀{l:LC},(l.all fun c=>decide (0<=c.Topic/\c.Topic<4611686018427387904/\0<=c.Value/\c.Value<4611686018427387904))=true->q8a (l.map q0m)=some (l.map cellP)|[],_=>rfl|x::r,h=>by simp only[List.all_cons,aT,dT']at h;have:=qo2 (l:=r) h.2;show q8a (D.agg [.v (.int .i64 x.Topic),.v (.int .i64 x.Value)]::r.map q0m)=_;simp only[q8a];rw[if_pos h.1,this];rfl
def smallC(l:LC):Bool:=decide (l.length<=1000)&&l.all fun c=>decide (0<=c.Topic/\c.Topic<4611686018427387904/\0<=c.Value/\c.Value<4611686018427387904)
theorem qn3{l:LC}(h:smallC l=true):l.length<=1000/\q8a (l.map q0m)=some (l.map cellP):=by simp only[smallC,aT,dT']at h;exact⟨h.1,qo2 h.2⟩
theorem yb8(l_0:List (Claim)):Le (chk (smallC l_0=true)<|some (q3m (List.map cellP l_0))) (z2e l_0):=chkLe fun h=>by obtain⟨h1,h2⟩:=qn3 h;refine q36 (T:=tn) (m:=q47) sigOk (by kernel_rfl) rfl ?_;show libA q47 [.d (.list (l_0.map q0m))] []=some (.d (.v (.bool (q3m (l_0.map cellP)))),[]);unfold libA q47;simp only[h2];rw[if_pos (by simp[q0a];omega)];rfl
theorem y3h(l:LC):(l.map q0m).all (q5q 2)=true:=by rw[List.all_eq_true];intro x hx;obtain⟨y,_,rfl⟩:=List.mem_map.1 hx;rfl
theorem yah(l:LM):(l.map q1p).all (q5q 7)=true:=by rw[List.all_eq_true];intro x hx;obtain⟨y,_,rfl⟩:=List.mem_map.1 hx;rfl
theorem yb4(i_1:Int)(v_2:List (Message))(h0:List (Message)):Le (chk (List.length v_2=1/\0<=i_1/\i_1<=((List.length h0:Nat):Int)/\List.length h0<=1000)<|some (h0.take i_1.toNat++(v_2++h0.drop i_1.toNat),())) (z1c i_1 v_2 h0):=chkLe fun⟨h1,h2,h3,h4⟩=>by match v_2,h1 with
  |[m],_=>
   refine q36 (T:=tn) (m:=q93 7) sigOk (by kernel_rfl) rfl ?_;show libA (q93 7) [.ref 0,.d (.v (.int .i64 i_1)),.d (.list [q1p m])] [[.own (h0.map q1p) false]]=some (.d (.list ((h0.take i_1.toNat++([m]++h0.drop i_1.toNat)).map q1p)),[[.undef]]);unfold libA q93;have h5:q5q 7 (q1p m)=true:=rfl;have h6:(h0.map q1p).length<q0a:=by simp[q0a];omega
   simp only;rw[if_pos ⟨h2,by simpa using h3,h6,h5,yah h0⟩];simp only[List.map_append,List.map_cons,List.map_nil,List.map_take,List.map_drop];rfl
theorem qwk(l:List (LC)):qf7 (l.map fun x=>D.list (x.map q0m))=some (l.map fun x=>x.map q0m):=by induction l with|nil=>rfl|cons x r ih=>simp only[List.map_cons,qf7,ih,mS]
theorem ybf(slices_0:List (List (Claim))):Le (chk (List.length slices_0<=1000/\List.length slices_0.flatten<=1000)<|some ((),slices_0.flatten)) (z1t slices_0):=chkLe fun⟨h1,h2⟩=>by
  refine q36 (T:=tn) (m:=q8n 2) sigOk (by kernel_rfl) rfl ?_;show libA (q8n 2) [.d (.list (slices_0.map fun x=>D.list (x.map q0m)))] []=some (.ref 0,[[.own (slices_0.flatten.map q0m) false]]);have e:(slices_0.map fun x=>x.map q0m).flatten=slices_0.flatten.map q0m:=by rw[List.map_flatten]
  unfold libA q8n;simp only[qwk,e];rw[if_pos ⟨by simp only[List.length_map,q0a];omega,by simp only[List.length_map,q0a];omega,y3h _⟩];rfl
def upC:LC->Bool|[]=>true|x::r=>r.all (fun y=>!qcn (cellP y) (cellP x))&&upC r
theorem qyb:∀{l:LC},upC l=true->(l.map cellP).Pairwise fun x y=>(!qcn y x)=true|[],_=>.nil|x::r,h=>by simp only[upC,aT]at h;rw[List.map_cons];refine .cons (fun y hy=>?_) (qyb h.2);obtain⟨z,hz,rfl⟩:=List.mem_map.1 hy;exact List.all_eq_true.1 h.1 z hz
theorem yao(h0:List (Claim)):Le (chk (smallC h0=true/\upC h0=true)<|some h0) (z0k h0):=chkLe fun⟨h,h3⟩=>by obtain⟨h1,h2⟩:=qn3 h;refine q36 (T:=tn) (m:=qdi _) sigOk (by kernel_rfl) rfl ?_;show libA (qdi _) [.ref 0,.fn _ []] [[.own (h0.map q0m) false]]=some (.tup [],[[.own (h0.map q0m) false]]);unfold libA qdi;simp only[h2];rw[if_pos ⟨trivial,by simp[q0a];omega⟩,List.mergeSort_of_pairwise (qyb h3),List.map_map];rfl
def compC:LC->LC|[]=>[]|[x]=>[x]|x::y::r=>if x.Topic=y.Topic/\x.Value=y.Value then compC (y::r)else x::compC (y::r)
theorem qxg:∀l:LC,q0c l=compC l
 |[]=>rfl|[x]=>rfl|x::y::r=>by
  simp only[q0c,compC];have e:x=y↔x.Topic=y.Topic/\x.Value=y.Value:=⟨fun h=>by rw[h];exact⟨rfl,rfl⟩,fun h=>by cases x;cases y;simp_all⟩;rw[qxg (y::r)];by_cases h:x=y;·rw[if_pos h,if_pos (e.1 h)]
  .rw[if_neg h,if_neg (fun h'=>h (e.2 h'))]
theorem ycq(h0:List (Claim)):Le (chk (List.length h0<=1000)<|some (compC h0,())) (z1p h0):=chkLe fun h=>by
  refine q36 (T:=tn) (m:=q6w 2) sigOk (by kernel_rfl) rfl ?_;show libA (q6w 2) [.ref 0] [[.own (h0.map q0m) false]]=some (.d (.list ((compC h0).map q0m)),[[.undef]]);unfold libA q6w;have h1:(h0.map q0m).length<=q0a:=by simp[q0a];omega
  have h2:(h0.map q0m).all flatD=true:=by rw[List.all_eq_true];intro x hx;obtain⟨y,_,rfl⟩:=List.mem_map.1 hx;rfl
  simp only[h2,y3h,h1,and_self,if_true];rw[qc3 (fun a b h=>q4j a b h) h0,qxg];rfl
end Go.Proofs.YtklhcnnpgkkjcaaGreatDoor
